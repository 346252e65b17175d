/- Lemmas. -/
import Derived.Test.YtbfikenbgfnfiaaGreatDoorSUniQ
namespace Go.Proofs.YtbfikenbgfnfiaaGreatDoor
set_option maxHeartbeats 32000000
set_option maxRecDepth 100000
open _root_.Go.Proofs.Tryz

section
open Go.RowKit
theorem q07k (a b:Int × Int) (t:List (Int × Int)):compP (a :: b :: t)=if a=b then compP (b :: t) else a :: compP (b :: t):=by rw [compP]
theorem q07i (a b:Int × Int):∀ xs:List (Int × Int),compP (xs ++ [a,b])=if a=b then compP (xs ++ [a]) else compP (xs ++ [a]) ++ [b]
 | []=>by
  show compP [a,b]=if a=b then [a] else [a] ++ [b]
  rw [q07k]
  by_cases h:a=b
  ·rw [if_pos h,if_pos h,h];rfl
  ·rw [if_neg h,if_neg h];rfl
 | [x]=>by
  have ih:=q07i a b [];have e1:compP ([x] ++ [a,b])=if x=a then compP ([] ++ [a,b]) else x :: compP ([] ++ [a,b]):=q07k x a [b]
  have e2:compP ([x] ++ [a])=if x=a then compP ([] ++ [a]) else x :: compP ([] ++ [a]):=q07k x a []
  rw [e1,e2,ih]
  by_cases h:a=b
  ·simp only [if_pos h]
  ·simp only [if_neg h]
   by_cases k:x=a
   ·simp only [if_pos k]
   ·simp only [if_neg k];rfl
 | x :: y :: zs=>by
  have ih:=q07i a b (y :: zs);have e1:compP (x :: y :: zs ++ [a,b])=if x=y then compP (y :: zs ++ [a,b]) else x :: compP (y :: zs ++ [a,b]):=q07k x y (zs ++ [a,b])
  have e2:compP (x :: y :: zs ++ [a])=if x=y then compP (y :: zs ++ [a]) else x :: compP (y :: zs ++ [a]):=q07k x y (zs ++ [a])
  rw [e1,e2,ih]
  by_cases h:a=b
  ·simp only [if_pos h]
  ·simp only [if_neg h]
   by_cases k:x=y
   ·simp only [if_pos k]
   ·simp only [if_neg k];rfl
theorem q07j {l:List (Int × Int)} {j:Nat} (hm:j+1<l.length):compP (l.take (j+1+1))=if l[j]=l[j+1] then compP (l.take (j+1)) else compP (l.take (j+1)) ++ [l[j+1]]:=by
 have e1:l.take (j+1)=l.take j ++ [l[j]]:=List.take_succ_eq_append_getElem (by omega)
 have e2:l.take (j+1+1)=l.take j ++ [l[j],l[j+1]]:=by rw [List.take_succ_eq_append_getElem hm,e1,List.append_assoc];rfl
 rw [e2,q07i,← e1]
structure Comping (l cur:List (Int × Int)) (k j:Nat):Prop where
 le:j+1≤l.length
 pos:1≤k
 lt:k≤j
 len:cur.length=l.length
 kept:cur.take k=compP (l.take (j+1))
 rest:cur.drop j=l.drop j
theorem Comping.at_ {l cur:List (Int × Int)} {k j:Nat} (h:Comping l cur k j) {q:Nat} (hq:q<l.length) (hq':q<cur.length) (hjq:j≤q):cur[q]=l[q]:=by
 have e1:(cur.drop j)[q-j]? = (l.drop j)[q-j]?:=by rw [h.rest]
 rw [List.getElem?_drop,List.getElem?_drop,show j+(q-j)=q by omega,List.getElem?_eq_getElem hq,List.getElem?_eq_getElem hq'] at e1
 injection e1
theorem Comping.tail {l cur:List (Int × Int)} {k j:Nat} (h:Comping l cur k j):cur.drop (j+1)=l.drop (j+1):=by
 rw [← List.drop_drop,← List.drop_drop,h.rest]
theorem Comping.skip {l cur:List (Int × Int)} {k j:Nat} (h:Comping l cur k j) (hj:j+1<l.length) (he:l[j+1]=l[j]):Comping l cur k (j+1) :=
 ⟨hj,h.pos,Nat.le_succ_of_le h.lt,h.len,by rw [q07j hj,if_pos he.symm];exact h.kept,h.tail⟩
theorem Comping.keep {l cur:List (Int × Int)} {k j:Nat} (h:Comping l cur k j) (hj:j+1<l.length) (he:l[j+1]≠l[j]):Comping l (cur.set k l[j+1]) (k+1) (j+1):=by
 have hk:k<cur.length:=by have:=h.lt;have:=h.len;omega
 refine ⟨hj,Nat.succ_le_succ (Nat.zero_le _),Nat.succ_le_succ h.lt,by rw [List.length_set];exact h.len,?_,?_⟩
 ·rw [q07j hj,if_neg (fun e=>he e.symm),← h.kept,List.take_succ_eq_append_getElem (by rw [List.length_set];exact hk),List.take_set_of_le (Nat.le_refl k)]
  simp
 ·rw [List.drop_set_of_lt (by have:=h.lt;omega)]
  exact h.tail
theorem Comping.start {l:List (Int × Int)} {j:Nat} (hj:j+1<l.length) (hp:compP (l.take (j+1))=l.take (j+1)) (he:l[j+1]=l[j]):Comping l l (j+1) (j+1) :=
 ⟨hj,Nat.succ_le_succ (Nat.zero_le _),Nat.le_refl _,rfl,by rw [q07j hj,if_pos he.symm,hp],rfl⟩
theorem q07e {l:List (Int × Int)} {j:Nat} (hj:j+1<l.length) (hp:compP (l.take (j+1))=l.take (j+1)) (he:l[j+1]≠l[j]):compP (l.take (j+1+1))=l.take (j+1+1):=by
 rw [q07j hj,if_neg (fun e=>he e.symm),hp,← List.take_succ_eq_append_getElem hj]
theorem q07h {l:List (Int × Int)} (h:l.length≤1):compP l=l:=by
 match l,h with
 | [],_=>rfl
 | [_],_=>rfl
theorem Comping.end_ {l cur:List (Int × Int)} {k j:Nat} (h:Comping l cur k j) (hj:j+1=l.length):compP l=cur.take k∧(cur.take k).length=k∧k≤cur.length:=by
 have h1:=h.kept;have h2:=h.lt;have h3:=h.len;rw [List.take_of_length_le (by omega:l.length≤j+1)] at h1
 exact ⟨h1.symm,by rw [List.length_take];omega,by omega⟩
end

section
open Go.RowKit
theorem pt_in {w:World} {B:Nat} {l:List PT} (h:Cells w B (shP.vs l)):shP.In w (some ⟨B,0,none⟩) l.length l :=
 ⟨rfl,shP.vs_length l,fun _=>⟨B,0,rfl,h.1,fun j u hu=>by rw [Nat.zero_add];exact h.at_ hu⟩⟩
theorem q085 (l:List PT):(shP.vs l).length=l.length*2:=shP.vs_length l
theorem q09s:∀ (l:List PT) (k:Nat) (h:k<l.length),(shP.vs l)[k*2]? = some (.int .i64 l[k].1)∧(shP.vs l)[k*2+1]? = some (.int .i64 l[k].2)
 | x :: t,0,_=>⟨rfl,rfl⟩
 | x :: t,k+1,h=>by
  have ih:=q09s t k (by simpa using h)
  rw [show (k+1)*2=k*2+1+1 by omega,show k*2+1+1+1=(k*2+1)+1+1 by omega]
  exact ih
theorem q09t:∀ (l:List PT) (k:Nat) (_:k<l.length) (a b:Int),((shP.vs l).set (k*2) (.int .i64 a)).set (k*2+1) (.int .i64 b)=shP.vs (l.set k (a,b))
 | x :: t,0,_,_,_=>rfl
 | x :: t,k+1,h,a,b=>by
  have ih:=q09t t k (by simpa using h) a b
  show ((Value.int .i64 x.1 :: .int .i64 x.2 :: shP.vs t).set ((k+1)*2) _).set ((k+1)*2+1) _=.int .i64 x.1 :: .int .i64 x.2 :: shP.vs (t.set k (a,b))
  rw [show (k+1)*2=k*2+1+1 by omega,show k*2+1+1+1=(k*2+1)+1+1 by omega]
  simp only [List.set_cons_succ];rw [ih]
theorem q07c (w:World) (b o m:Nat) (hm:0<m) (hc:∀ j,j<m*2→(w.cell? ⟨b,o+j,none⟩).isSome=true) (hf:∀ j,j<m*2→w.frozen? ⟨b,o+j,none⟩=false) :
  ∃ Z:List Value,Z.length=m*2∧∀ (ty:TypeId) (c:Nat),(Builtin.clear_ #[61] ty #[.slice (some ⟨b,o,none⟩) m c]).run prog w=.ok (.tuple #[]) (w.setCells b o Z):=by
 have hv:∀ w,(zeroValue 43).run prog w=.ok (.agg #[.int .i64 0,.int .i64 0]) w:=fun w=>by kernel_rfl
 obtain ⟨Z,hZ⟩:∃ Z,Z=(Builtin.zeroCells (Value.cells (.agg #[.int .i64 0,.int .i64 0])) m).toList:=⟨_,rfl⟩;have hcs:Value.cells (.agg #[.int .i64 0,.int .i64 0])=#[.int .i64 0,.int .i64 0]:=by kernel_rfl
 have hlen:Z.length=m*2:=by
  rw [hZ,hcs];unfold Builtin.zeroCells;simp
 have hone:∀ v ∈ Z,v.oneCell' = true:=by
  intro v hv';rw [hZ,hcs] at hv';unfold Builtin.zeroCells at hv';simp only [Array.toList_map,List.mem_map] at hv';obtain ⟨i,-,rfl⟩:=hv';have h7:i % 2<2:=Nat.mod_lt _ (by omega)
  show ((#[Value.int .i64 0,.int .i64 0]:Array Value)[i % 2]!).oneCell' = true
  generalize i % 2=r at *
  match r,h7 with
  | 0,_=>rfl
  | 1,_=>rfl
 refine ⟨Z,hlen,fun ty c=>?_⟩
 have hst:=run_storeCells_cells (P:=prog) b o Z 0 w (by rw [hlen];simpa using hc) (by rw [hlen];simpa using hf) hone
 simp only [Nat.add_zero] at hst
 match m,hm with
 | m+1,_=>simp [Builtin.clear_,run_underlying underlying61,hv,← hZ,hst]
theorem q08r (g cap base:Nat) (l:List PT) (w:World) (hC:Cells w g (shP.vs l)) (hbg:base≤g) (hbs:base≤w.heap.size) (hn:l.length≤100000) (hcap:l.length≤cap) :
  Calls prog 77 #[.slice (some ⟨g,0,none⟩) l.length cap] w fun e w'=>e=.returned (.slice (some ⟨g,0,none⟩) (compP l).length cap)∧Cells w' g (shP.vs (compP l))∧Below base w w':=by
 by_cases h0:l.length<2
 ·rw [q07h (l:=l) (by omega)]
  have g1:(l.length:Int)<2:=by omega
  have HC:=hj_ hC;clear hC hbg hbs hn hcap h0
  go_enter func77,ntmps77
  go_wp2_with fail;go_ret;exact ⟨rfl,HC.out,br_⟩
 ·have g1:¬ (l.length:Int)<2:=by omega
  have HC:=hj_ hC;have HG:=hj_ hbg;have HS:=hj_ hbs;have HN:=hj_ hn;have HCp:=hj_ hcap;have H0:=hj_ h0;clear hC hbg hbs hn hcap h0
  go_enter func77,ntmps77
  go_wp2_with fail
  go_loopw [3] (fun kv wr=>∃ k j:Nat,k=j+1∧k≤l.length∧kv=.int .i64 k∧compP (l.take k)=l.take k∧Cells wr g (shP.vs l)∧Below base w wr) (fun kv _=>l.length-(intOf kv).toNat)
  case atStart=>exact ⟨1,0,rfl,by have:=H0.out;omega,rfl,q07h (by rw [List.length_take];omega),HC.out,br_⟩
  case round =>
   obtain ⟨k,j,hkj,hk,rfl,hp,hCr,hB⟩:=hrel
   rename World=>V3
   by_cases hlt:k<l.length
   case neg =>
    obtain rfl:k=l.length:=by omega
    rw [List.take_length] at hp;have HP:=hj_ hp;have HCr:=hj_ hCr;have HB:=hj_ hB;clear hp hCr hB hkj;go_wp2_with fail;go_ret;exact ⟨by rw [HP.out];rfl,by rw [HP.out];exact HCr.out,HB.out⟩
   case pos =>
    have hjl:j<l.length:=by omega
    obtain ⟨p0,p1⟩:=q09s l k hlt;obtain ⟨q0,q1⟩:=q09s l j hjl;replace p0:=hCr.at_ p0
    replace p1:=hCr.at_ p1
    replace q0:=hCr.at_ q0
    replace q1:=hCr.at_ q1
    have HGo:=hj_ (show l[k]≠l[j]→compP (l.take (k+1))=l.take (k+1) from by subst hkj;exact q07e hlt hp)
    have HSt:=hj_ (show l[k]=l[j]→Comping l l k k from by subst hkj;exact Comping.start hlt hp)
    have i0:(0:Int)≤(k:Int):=by omega
    have i1:(k:Int)<(l.length:Int):=by omega
    have j0:(0:Int)≤(j:Int):=by omega
    have j1:(j:Int)<(l.length:Int):=by omega
    have w0:IntKind.i64.wrap ((k:Int)-1)=(j:Int):=by
     rw [show (k:Int)-1=(j:Int) by omega]
     exact IntWalk.i64_in _ (by have:=HN.out;omega)
    have w1:IntKind.i64.wrap ((k:Int)+1)=(k:Int)+1:=IntWalk.i64_in _ (by have:=HN.out;omega)
    have HKJ:=hj_ (And.intro hkj hlt);have HCr:=hj_ hCr;have HB:=hj_ hB;have hgs:=hCr.1;clear hp hCr hB;generalize l[k]=x at *;generalize l[j]=y at *;clear hkj hjl hk;obtain ⟨xa,xb⟩:=x;obtain ⟨ya,yb⟩:=y;dsimp only at p0 p1 q0 q1
    by_cases hxy:(xa,xb)=(ya,yb)
    case neg =>
     have hgo:=HGo.out hxy;have HGo2:=hj_ hgo;have hbe:(xa == ya && xb == yb)=false:=by
      rw [Bool.eq_false_iff,ne_eq,Bool.and_eq_true,beq_iff_eq,beq_iff_eq];exact fun h=>hxy (by rw [h.1,h.2])
     clear HGo HSt hgo
     by_cases e1:xa=ya
     ·have e2:¬ xb=yb:=fun e=>hxy (by rw [e1,e])
      have g2:(xb == yb)=false:=by simpa using e2
      subst e1;clear hxy hbe e2;go_wp2_with fail;go_quiet (fail);go_wp2
      go_roundw
      case rel=>exact ⟨k+1,k,rfl,HKJ.out.2,by go_num,HGo2.out,HCr.out.below (q18 (br_) _) HCr.out.1,q18 HB.out _⟩
      case measure=>simp [intOf];have:=HKJ.out;omega
     ·have g2:(xa == ya)=false:=by simpa using e1
      clear hxy hbe e1;go_wp2_with fail;go_quiet (fail);go_wp2
      go_roundw
      case rel=>exact ⟨k+1,k,rfl,HKJ.out.2,by go_num,HGo2.out,HCr.out.below (q18 (br_) _) HCr.out.1,q18 HB.out _⟩
      case measure=>simp [intOf];have:=HKJ.out;omega
    case pos =>
     have hst:=HSt.out hxy;have HSt2:=hj_ hst
     injection hxy with e1 e2
     subst e1 e2;clear HGo HSt hst;have s1:(k:Int)≤(l.length:Int):=by omega
     have s2:(k:Int)≤(cap:Int):=by have:=HCp.out;omega
     have s3:¬ cap=k:=by have:=HCp.out;omega
     have s4:(l.length:Int)≤(cap:Int):=by have:=HCp.out;omega
     go_wp2_with fail;go_quiet (fail);generalize hV4:V3.drewN nq=V4;have h34:Below V3.heap.size V3 V4:=by rw [← hV4];exact q18 (br_) nq
     have HC4:=hj_ (HCr.out.below h34 HCr.out.1);have HB4:=hj_ (HB.out.trans (h34.mono (Nat.le_trans HS.out HB.out.size)));clear p0 p1 q0 q1 h34 hV4 hgs i0 i1 j0 j1 w0;go_wp2_with fail
     go_loopw [3,5] (fun kv mv wr=>∃ (kk q r:Nat) (cur:List PT),q=r+1∧k+q≤l.length∧kv=.int .i64 kk∧mv=.int .i64 q∧Comping l cur kk (k+r)∧Cells wr g (shP.vs cur)∧Below base w wr) (fun _ mv _=>l.length-(intOf mv).toNat)
     case atStart=>exact ⟨k,1,0,l,rfl,HKJ.out.2,rfl,rfl,HSt2.out,HC4.out,HB4.out⟩
     case round =>
      obtain ⟨kk,q,r,cur,hqr,hq,rfl,rfl,hco,hCr5,hB5⟩:=hrel
      rename World=>V5
      have HCo:=hj_ hco;have HC5:=hj_ hCr5;have HB5:=hj_ hB5
      by_cases hlq:k+q<l.length
      case neg =>
       have hend:=hco.end_ (by omega)
       have hkl:=hco.lt;have hcl:=hco.len;obtain ⟨Z,hZ,hrun⟩:=q07c V5 g (kk*2) (l.length-kk) (by omega) (fun t ht=>by
        have hvl:=q085 cur;rw [hCr5.at_ (List.getElem?_eq_getElem (by omega))]
        rfl) (fun t ht=>by
        have hvl:=q085 cur;exact hCr5.fr (List.getElem?_eq_getElem (show kk*2+t<(shP.vs cur).length by omega)))
       have HP:=hj_ (show Cells (V5.setCells g (kk*2) Z) g (shP.vs (cur.take kk))∧Below base w (V5.setCells g (kk*2) Z) from by
        have hgr:=qah V5 g (kk*2) Z;have hvt:=q085 (cur.take kk);rw [hend.2.1] at hvt;refine ⟨⟨Nat.lt_of_lt_of_le hCr5.1 hgr.size,fun t u hu=>?_⟩,hB5.grown hgr (Nat.le_trans HS.out hB5.size) (fun t e=>by cases e;exact HG.out)⟩
        have ht:t<kk*2:=by
         have:=(List.getElem?_eq_some_iff.1 hu).1
         omega
        have hu2:(shP.vs cur)[t]? = some u:=by
         have e:shP.vs cur=shP.vs (cur.take kk) ++ shP.vs (cur.drop kk):=by rw [← Sh.vs_append,List.take_append_drop]
         rw [e,List.getElem?_append_left (by omega)]
         exact hu
        exact ⟨(World.cell?_setCells_out g _ _ _ _ (fun _ _=>.inl (by show t<kk*2;exact ht))).trans (hCr5.at_ hu2),(World.frozen?_setCells ..).trans (hCr5.fr hu2)⟩)
       have HFi:=hj_ hend;have r1:¬ (q:Int)<((l.length-k:Nat):Int):=by omega
       have i0:(0:Int)≤(kk:Int):=by omega
       have i1:(kk:Int)≤(l.length:Int):=by omega
       have i2:(kk:Int)≤(cap:Int):=by omega
       have i3:¬ cap=kk:=by omega
       clear hZ hend hco hCr5 hB5 hkl hcl hqr hlq hq s1 s2 s3;go_wp2_with fail;go_ret;exact ⟨by rw [HFi.out.1,HFi.out.2.1];rfl,by rw [HFi.out.1];exact HP.out.1,HP.out.2⟩
      case pos =>
       have hkl:=hco.lt;have hcl:=hco.len;have hjc:k+q<cur.length:=by omega
       have hrc:k+r<cur.length:=by omega
       obtain ⟨p0,p1⟩:=q09s cur (k+q) hjc;obtain ⟨q0,q1⟩:=q09s cur (k+r) hrc;replace p0:=hCr5.at_ p0
       replace p1:=hCr5.at_ p1
       replace q0:=hCr5.at_ q0
       replace q1:=hCr5.at_ q1
       rw [hco.at_ hlq hjc (by omega)] at p0 p1
       rw [hco.at_ (show k+r<l.length by omega) hrc (Nat.le_refl _)] at q0 q1
       rw [Nat.add_mul] at p0 p1 q0 q1;have HSk:=hj_ (show l[k+q]=l[k+r]→Comping l cur kk (k+q) from by subst hqr;exact hco.skip hlq)
       have HKe:=hj_ (show l[k+q]≠l[k+r]→Comping l (cur.set kk l[k+q]) (kk+1) (k+q) from by subst hqr;exact hco.keep hlq)
       have i0:(0:Int)≤(q:Int):=by omega
       have i1:(q:Int)<((l.length-k:Nat):Int):=by omega
       have j0:(0:Int)≤(r:Int):=by omega
       have j1:(r:Int)<((l.length-k:Nat):Int):=by omega
       have k0:(0:Int)≤(kk:Int):=by omega
       have k1:(kk:Int)<(l.length:Int):=by omega
       have w0:IntKind.i64.wrap ((q:Int)-1)=(r:Int):=by
        rw [show (q:Int)-1=(r:Int) by omega]
        exact IntWalk.i64_in _ (by have:=HN.out;omega)
       have w1:IntKind.i64.wrap ((q:Int)+1)=(q:Int)+1:=IntWalk.i64_in _ (by have:=HN.out;omega)
       have w2:IntKind.i64.wrap ((kk:Int)+1)=(kk:Int)+1:=IntWalk.i64_in _ (by have:=HN.out;omega)
       have hgs:=hCr5.1;have HKL:=hj_ (And.intro hlq (show kk<cur.length by omega))
       clear hco hCr5 hB5 hkl;generalize l[k+q]=x at *;generalize l[k+r]=y at *;clear hjc hrc hqr hlq hq hcl;obtain ⟨xa,xb⟩:=x;obtain ⟨ya,yb⟩:=y;dsimp only at p0 p1 q0 q1
       by_cases hxy:(xa,xb)=(ya,yb)
       case pos =>
        have hst:=HSk.out hxy;have HSt2:=hj_ hst
        injection hxy with e1 e2
        subst e1 e2;clear HSk HKe hst;go_wp2_with fail;go_quiet (fail);go_wp2
        go_roundw
        case rel=>exact ⟨kk,q+1,q,cur,rfl,HKL.out.1,rfl,by go_num,HSt2.out,HC5.out.below (q18 (br_) _) HC5.out.1,q18 HB5.out _⟩
        case measure=>simp [intOf];have:=HKL.out;omega
       case neg =>
        have hst:=HKe.out hxy;have HSt2:=hj_ hst;clear HSk HKe hst
        by_cases e1:xa=ya
        ·have e2:¬ xb=yb:=fun e=>hxy (by rw [e1,e])
         have g2:(xb == yb)=false:=by simpa using e2
         subst e1;clear hxy e2;go_wp2_with fail;go_quiet (fail);generalize hV6:V5.drewN nq=V6;have h56:Below V5.heap.size V5 V6:=by rw [← hV6];exact q18 (br_) nq
         have hC6:=HC5.out.below h56 HC5.out.1;have HC6:=hj_ hC6;have HB6:=hj_ (HB5.out.trans (h56.mono (Nat.le_trans HS.out HB5.out.size)));replace p0:=(h56.cell (p:=⟨g,_,none⟩) hgs).trans p0;replace p1:=(h56.cell (p:=⟨g,_,none⟩) hgs).trans p1;obtain ⟨z0,z1⟩:=q09s cur kk HKL.out.2;have f0:=hC6.fr z0;have f1:=hC6.fr z1;replace z0:=hC6.at_ z0
         replace z1:=hC6.at_ z1
         have hg6:=hC6.1;clear q0 q1 h56 hV6 hgs hC6;go_wp2_with fail
         go_roundw
         case rel =>
          have hvl:=q085 cur;have hkk:=HKL.out.2;have hs:=(HC6.out.set (kk*2) (.int .i64 xa) (by omega)).set (kk*2+1) (.int .i64 xb) (by rw [List.length_set];omega)
          rw [q09t cur kk hkk] at hs;exact ⟨kk+1,q+1,q,_,rfl,HKL.out.1,by go_num,by go_num,HSt2.out,hs,(HB6.out.setCell (p:=⟨g,kk*2,none⟩) HG.out (.int .i64 xa)).setCell (p:=⟨g,kk*2+1,none⟩) HG.out (.int .i64 xb)⟩
         case measure=>simp [intOf];have:=HKL.out;omega
        ·have g2:(xa == ya)=false:=by simpa using e1
         clear hxy e1;go_wp2_with fail;go_quiet (fail);generalize hV6:V5.drewN nq=V6;have h56:Below V5.heap.size V5 V6:=by rw [← hV6];exact q18 (br_) nq
         have hC6:=HC5.out.below h56 HC5.out.1;have HC6:=hj_ hC6;have HB6:=hj_ (HB5.out.trans (h56.mono (Nat.le_trans HS.out HB5.out.size)));replace p0:=(h56.cell (p:=⟨g,_,none⟩) hgs).trans p0;replace p1:=(h56.cell (p:=⟨g,_,none⟩) hgs).trans p1;obtain ⟨z0,z1⟩:=q09s cur kk HKL.out.2;have f0:=hC6.fr z0;have f1:=hC6.fr z1;replace z0:=hC6.at_ z0
         replace z1:=hC6.at_ z1
         have hg6:=hC6.1;clear q0 q1 h56 hV6 hgs hC6;go_wp2_with fail
         go_roundw
         case rel =>
          have hvl:=q085 cur;have hkk:=HKL.out.2;have hs:=(HC6.out.set (kk*2) (.int .i64 xa) (by omega)).set (kk*2+1) (.int .i64 xb) (by rw [List.length_set];omega)
          rw [q09t cur kk hkk] at hs;exact ⟨kk+1,q+1,q,_,rfl,HKL.out.1,by go_num,by go_num,HSt2.out,hs,(HB6.out.setCell (p:=⟨g,kk*2,none⟩) HG.out (.int .i64 xa)).setCell (p:=⟨g,kk*2+1,none⟩) HG.out (.int .i64 xb)⟩
         case measure=>simp [intOf];have:=HKL.out;omega
end

section
open Go.RowKit Go.Sort
theorem q076 {w w':World} (h:Below w.heap.size w w') (hd:w.drawn≤w'.drawn):∃ q os',w' = grow (w.drewN q) os':=by
 refine ⟨w'.drawn-w.drawn,w'.heap.extract w.heap.size w'.heap.size,?_⟩;obtain ⟨h1,h2,h3,h4,h5⟩:=h;obtain ⟨hp,tp,dr,os,ou⟩:=w;obtain ⟨hp',tp',dr',os',ou'⟩:=w';dsimp only at h1 h2 h3 h4 h5 hd;subst h1 h2 h3;have e:hp' = hp ++ hp'.extract hp.size hp'.size:=by
  apply Array.ext_getElem?
  intro i
  by_cases hi:i<hp.size
  ·rw [h5 i hi,Array.getElem?_append_left hi]
  ·rw [Array.getElem?_append_right (by omega),Array.getElem?_extract]
   by_cases hj:i<hp'.size
   ·rw [if_pos (by omega)];congr 1;omega
   ·rw [if_neg (by omega),Array.getElem?_eq_none (by omega)]
 unfold World.drewN grow;dsimp only;rw [← e,show dr+(dr' - dr)=dr' by omega]
def ptE (x:PT):List Value:=[.int .i64 x.1,.int .i64 x.2]
def ptC (x y:PT):Int:=cmpV x.1 x.2 y.1 y.2
theorem ptC_lt {x y:PT}:ltOf ptC x y=bfP x y:=by
 unfold ltOf ptC cmpV Lib.compareInt bfP
 by_cases h1:x.1<y.1
 ·simp [h1]
 ·by_cases h2:y.1<x.1
  ·have h3:¬ x.1=y.1:=by omega
   simp [h1,h2,h3]
  ·have h3:x.1=y.1:=by omega
   rw [h3]
   by_cases h4:x.2<y.2
   ·simp [h4]
   ·by_cases h5:y.2<x.2 <;> simp [h4,h5]
theorem q083:SWO (ltOf ptC):=by
 refine ⟨fun x=>?_,fun x y z h1 h2=>?_,fun x y z h1 h2=>?_⟩
 ·rw [ptC_lt];exact q078
 ·rw [ptC_lt] at *;exact q079 h1 h2
 ·rw [ptC_lt] at *
  rw [Bool.eq_false_iff,ne_eq,q077] at *;omega
theorem q08s (x y:PT) (W:World):Calls prog 76 #[.agg (ptE x).toArray,.agg (ptE y).toArray] W fun e w'=>e=.returned (.int .i64 (ptC x y))∧∃ q os',w' = grow (W.drewN q) os' :=
 (qtw x.1 x.2 y.1 y.2 W).mono fun _ _ h=>⟨h.1,q076 h.2.1 h.2.2⟩
theorem q084 (l:List PT):l.flatMap ptE=shP.vs l:=rfl
theorem q08k (g cap:Nat) (l:List PT) (w:World) (hC:Cells w g (shP.vs l)) (hn:l.length≤100000) :
  Calls prog 75 #[.slice (some ⟨g,0,none⟩) l.length cap,.func (.func 76) #[] #[]] w fun e w'=>e=.returned (.tuple #[])∧∃ d:List PT,d.Perm l∧d.Pairwise (fun x y=>bfP y x=false)∧Cells w' g (shP.vs d)∧w.grownBy w' (some g):=by
 have hk:∀ x:PT,(ptE x).length=2:=fun x=>rfl
 rw [← q084] at hC;have hH:=q053 hk hC;have hsz:l.toArray.size=l.length:=by simp
 rw [← hsz];have hc:=slices_SortFunc_f75 2 (fun w=>by kernel_rfl) (fun w=>by kernel_rfl) ptE hk (fun x v hv=>shP.one x v hv) ptC q083 76 #[] g 0 cap l.toArray w (enters_of func76 (by kernel_rfl) rfl) (fun _ _ _ _ x y=>q08s x y _) hH hC.1 (by rw [hsz];omega)
 refine hc.mono fun e w' ⟨he,d',n,os,hp,hs,hw⟩=>⟨he,d'.toList,?_,?_,?_,?_⟩
 ·have:=q05h hp
  simpa using this
 ·have:=q05t hp.1.symm hs
  exact this.imp fun {x y} h=>by rw [ptC_lt] at h;exact h
 ·rw [← q084,hw]
  refine q04k hk (q054 hH hC.1 hp.1) ?_;exact Nat.lt_of_lt_of_le hC.1 (q04y d').size
 ·rw [hw]
  exact q04y d'
end

section
open Go.RowKit
theorem q082 {w:World} {base:Nat} {e:TypeId} {z:Nat} {g n c:Nat} {xs:List Value} (h:w.ownsRow base e z (.slice (some ⟨g,0,none⟩) n c) n xs):Cells w g xs:=q05b h
theorem q08q (A0:Option Addr) (n0 d0:Nat) (H:List Hd) (L:List (List PT)) (A1:Option Addr) (n1 d1:Nat) (PL:List (PC × List Fea)) (A2:Option Addr) (n2 d2:Nat) (X:List Fx) (A:Option Addr) (n c:Nat) (l:List Fm) (w:World)
  (hl:InN w A0 n0 H L) (hm:∀ h ∈ H,h.n≤9223372036854775807) (hp:InPs w A1 n1 PL) (hn1:n1≤9223372036854775806) (hx:shX.In w A2 n2 X) (hn2:n2≤d2) (hd2:d2≤9223372036854775807) (hcb:∀ x ∈ X,x.cb.size≤9223372036854775807)
  (hf:shFm.In w A n l) (hn:n≤9223372036854775806) (hs:∀ x ∈ l,x.sl.size≤9223372036854775807) (h40:∀ x ∈ X,(featV PL x.pr).length≤40) :
  Calls prog 27 #[.agg #[.slice A0 n0 d0,.slice A1 n1 d1,.slice A2 n2 d2],.slice A n c] w fun e w'=>∃ A' c',e=.returned (.tuple #[.slice A' (outV L PL X l).length c',.int .i64 (outE L PL X l)])∧shP.In w' A' (outV L PL X l).length (outV L PL X l)∧Below w.heap.size w w':=by
 have HBo:=hj_ (fun w h1 h2 h3 h4=>q01c A0 n0 d0 H L A1 n1 d1 PL A2 n2 d2 X A n c l w h1 hm h2 hn1 h3 hn2 hd2 hcb h4 hn hs)
 obtain rfl:n2=X.length:=hx.1
 by_cases hb0:bothE L PL X l=0
 case neg =>
  have hE:=q07w hb0;have hv:=q080 (by rw [hE];exact hb0)
  rw [hE,hv];generalize bothE L PL X l=E at *;have g1:(E == 0)=false:=by simpa using hb0
  have g2:(E != 0)=true:=by simpa using hb0
  clear hE hv h40;obtain ⟨W,hW⟩:∃ W,W=(w.alloc (.cells #[.slice A0 n0 d0,.slice A1 n1 d1,.slice A2 X.length d2] 26)):=⟨_,rfl⟩;obtain ⟨hB0,hK0⟩:=box1 #[.slice A0 n0 d0,.slice A1 n1 d1,.slice A2 X.length d2] 26 w W hW;have hK:∀ w',Below W.heap.size W w'→w'.cell? ⟨w.heap.size,0,none⟩=some (.slice A0 n0 d0)∧w'.cell? ⟨w.heap.size,1,none⟩=some (.slice A1 n1 d1)∧w'.cell? ⟨w.heap.size,2,none⟩=some (.slice A2 X.length d2):=fun w' h=>⟨(hK0 w' h) 0 _ rfl,(hK0 w' h) 1 _ rfl,(hK0 w' h) 2 _ rfl⟩
  have HK:=hj_ hK;have HW:=hj_ hW;have HB0:=hj_ hB0;have hB:=Below.refl W.heap.size W;obtain ⟨c0,c1,c2⟩:=hK W hB;clear hW hB0 hK hK0;have HL:=hj_ (hl.below HB0.out);have HP:=hj_ (hp.below HB0.out);have HX:=hj_ (hx.below HB0.out);have HF:=hj_ (hf.below HB0.out);clear hl hm hp hn1 hx hn2 hd2 hcb hf hn hs
  go_enter func27,ntmps27
  go_wp2_with fail;rw [← HW.out];refine (HBo.out _ (HL.out.below hB) (HP.out.below hB) (HX.out.below hB) (HF.out.below hB)).mono ?_;rintro e wk ⟨rfl,hb⟩;have HB2:=hj_ (HB0.out.trans ((ht_ hB hb).mono HB0.out.size));clear hb;go_wp2_with fail;go_ret2;exact ⟨none,0,rfl,Sh.In.nil _ _,HB2.out⟩
 obtain ⟨hu,hr⟩:=q07b hb0;rw [hb0] at HBo;have H6:=hj_ (fun (i:Nat) (hi:i<X.length) (hp:plI l X[i].un<0)=>q07y hb0 hi hp)
 have HOk:=hj_ (fun (hp:∀ j (hj:j<X.length),¬ plI l X[j].un<0)=>q07x hb0 hp)
 have HVn:=hj_ (fun (h:outE L PL X l≠0)=>q080 h)
 have HVk:=hj_ (fun (h:outE L PL X l=0)=>q081 h)
 have HRd:=hj_ (fun w h=>qyk A n c l w h hr)
 have HPf:=hj_ (fun (x:Fx) (p:PC) w h1 h2=>qyj A0 n0 d0 A1 n1 d1 A2 X.length d2 (PL.map Prod.fst) x p w h1 hn1 h2)
 have HS0:=hj_ (fun w=>usort0 w)
 have HC0:=hj_ (fun w=>q01d w)
 have HRk:=hj_ (rig_ok hu);have HFx:=hj_ (qu8 hu).2.2.1;have HX64:=hj_ (qu8 hu).2.1;have H40:=hj_ h40;have HSz:=hj_ (fun i (h:i<l.length)=>show l[i].sl.size=512 from by have:=(rg_ok ((q9q hr).2 i h)).2.2.1;rw [qa1 h] at this;exact this)
 obtain ⟨W,hW⟩:∃ W,W=(w.alloc (.cells #[.slice A0 n0 d0,.slice A1 n1 d1,.slice A2 X.length d2] 26)):=⟨_,rfl⟩;obtain ⟨hB0,hK0⟩:=box1 #[.slice A0 n0 d0,.slice A1 n1 d1,.slice A2 X.length d2] 26 w W hW;have hK:∀ w',Below W.heap.size W w'→w'.cell? ⟨w.heap.size,0,none⟩=some (.slice A0 n0 d0)∧w'.cell? ⟨w.heap.size,1,none⟩=some (.slice A1 n1 d1)∧w'.cell? ⟨w.heap.size,2,none⟩=some (.slice A2 X.length d2):=fun w' h=>⟨(hK0 w' h) 0 _ rfl,(hK0 w' h) 1 _ rfl,(hK0 w' h) 2 _ rfl⟩
 have HK:=hj_ hK;have HW:=hj_ hW;have HB0:=hj_ hB0;have hB:=Below.refl W.heap.size W;obtain ⟨c0,c1,c2⟩:=hK W hB;clear hW hB0 hK hK0;have HL:=hj_ (hl.below HB0.out);have HP:=hj_ (hp.below HB0.out);have HX:=hj_ (hx.below HB0.out);have HF:=hj_ (hf.below HB0.out);clear hl hm hp hn1 hx hn2 hd2 hcb hf hn hs hu hr h40 hb0;generalize outE L PL X l=E at *;generalize outV L PL X l=V9 at *
 go_enter func27,ntmps27
 go_wp2_with fail;rw [← HW.out];refine uq_ (HBo.out _ (HL.out.below hB) (HP.out.below hB) (HX.out.below hB) (HF.out.below hB)) hB ?_;clear hB;intro wk hB;go_wp2_with fail;refine (HRd.out _ (HF.out.below hB)).mono ?_;rintro e V ⟨M,R,rfl,hI,hb⟩;have HI:=hj_ hI;have HBV:=hj_ (ht_ hB hb);obtain ⟨c0,c1,c2⟩:=HK.out _ HBV.out;clear hb hI hB HBo HRd;go_wp2_with fail;clear c0 c1 c2
 go_loopw [8,27] (fun vo iv wr=>∃ k:Nat,k≤X.length∧iv=.int .i64 k∧(∀ j (hj:j<X.length),j<k→¬ plI l X[j].un<0)∧wr.ownsRow V.heap.size 43 2 vo (offX l PL (X.take k)).length (shP.vs (offX l PL (X.take k)))∧Below V.heap.size V wr) (fun _ iv _=>X.length-(intOf iv).toNat)
 case atStart=>exact ⟨0,Nat.zero_le _,rfl,fun j _ h=>absurd h (Nat.not_lt_zero _),World.ownsRow_nil _ _ _ _,br_⟩
 case round =>
  obtain ⟨k,hk,rfl,hno,hown,hV⟩:=hrel;obtain ⟨Ao,co,rfl⟩:=qfu hown;have HNo:=hj_ hno;have HOw:=hj_ hown
  rename World=>V3
  clear hno hown;have HV3:=hj_ hV;have HB3:=hj_ (ht_ HBV.out hV);clear hV
  by_cases hlt:k<X.length
  case neg =>
   obtain rfl:k=X.length:=by omega
   have hpl:∀ j (hj:j<X.length),¬ plI l X[j].un<0:=fun j hj=>HNo.out j hj hj
   have hE:=HOk.out (fun j hj=>by have:=hpl j hj;omega)
   have hV9:=HVk.out hE;subst hE;rw [List.take_length] at HOw ⊢;have hown:=HOw.out;have hol:=q07u (l:=l) H40.out;have hx64:=HX64.out
   rcases hown.2 with ⟨hv,hxs⟩ | ⟨g,cap,cur,hv,hg,hcur,-⟩
   ·injection hv with e1 e2 e3
    have h0:offX l PL X=[]:=by
     match offX l PL X,e2 with
     | [],_=>rfl
    subst e1 e3;rw [h0] at hV9 ⊢;have hV0:V9=[]:=hV9;subst hV0;clear hpl HVk HVn HOk H6 HNo hown hV9 hxs hol hx64 h0 HOw;go_wp2_with fail;refine (HS0.out _).mono ?_;rintro e w4 ⟨rfl,rfl⟩;go_wp2_with fail;refine (HC0.out _).mono ?_;rintro e w5 ⟨rfl,rfl⟩;go_wp2_with fail;go_ret2;exact ⟨none,0,rfl,Sh.In.nil _ _,ht_ HB0.out HB3.out⟩
   ·injection hv with e1 e2 e3
    subst e1 e3;have hso:=q08k g co (offX l PL X) V3 (q082 hown) (by omega)
    have hcap:=qft hown;have HSo:=hj_ hso;have HOl:=hj_ (And.intro hol (And.intro hcap hg));generalize offX l PL X=O at *;clear hpl HVk HVn HOk H6 HNo hown hso hol hx64 hcap hcur HOw;have HV9:=hj_ hV9;have hw3:=HV3.out.size;have HVs:=hj_ hw3;clear hV9 hw3;go_wp2_with fail;refine HSo.out.mono ?_;rintro e w4 ⟨rfl,d,hdp,hds,hC4,hgr⟩;have hdl:d.length=O.length:=hdp.length_eq;have hcp:=q08j hdp hds;have hco:=q08r g co V.heap.size d w4 hC4 HOl.out.2.2 (Nat.le_trans HVs.out hgr.size) (by rw [hdl];have:=HOl.out.1;have:=HX64.out;omega) (by rw [hdl];exact HOl.out.2.1.1)
    rw [hcp,← HV9.out,hdl] at hco;have HCo:=hj_ hco;have h4:=HV3.out.grown hgr HVs.out (fun q e=>by cases e;exact HOl.out.2.2)
    have HB4:=hj_ (HB0.out.trans ((ht_ HBV.out h4).mono HB0.out.size));have hz:=HBV.out.size;have hz0:=HB0.out.size;have HZ:=hj_ (Nat.le_trans hz0 hz);clear hdl hcp hco h4 hgr hC4 hds hdp hz hz0;go_wp2_with fail;refine HCo.out.mono ?_;rintro e w5 ⟨rfl,hC5,hb5⟩;have HC5:=hj_ hC5;have HB5:=hj_ (HB4.out.trans (hb5.mono HZ.out));clear hC5 hb5;go_wp2_with fail;go_ret2;exact ⟨_,co,rfl,pt_in HC5.out,HB5.out⟩
  case pos =>
   obtain ⟨b,o,rfl,hbl,hcell⟩:=fx_at HX.out (by omega)
   have hk4:=hcell k hlt;have kk:=fun (q:Nat)=>HB3.out.cell (p:=⟨b,q,none⟩) hbl
   have hbw:b<V3.heap.size:=Nat.lt_of_lt_of_le hbl HB3.out.size;obtain ⟨hrn,hf1,hf2,p,hp⟩:=HFx.out k hlt;have hpf:=q83 PL X[k].pr;rw [hp] at hpf;obtain ⟨y,hy,hyp⟩:∃ y,PL.find? (fun x=>decide (x.1.s=X[k].pr))=some y∧y.1=p:=by
    cases hq:PL.find? (fun x=>decide (x.1.s=X[k].pr)) with
    | none=>rw [hq] at hpf;cases hpf
    | some y=>rw [hq] at hpf;injection hpf with hpf;exact ⟨y,rfl,hpf.symm⟩
   have hym:=List.mem_of_find?_eq_some hy;have hfv:featV PL X[k].pr=y.2:=by unfold featV;rw [hy]
   obtain ⟨H',hH'⟩:=HP.out.2 y hym;have hfit:=HRk.out.fit X[k] (List.getElem_mem hlt);have hpll:=qbb (p:=fun f:Fm=>decide (f.un=X[k].un)) l
   by_cases hpl:plI l X[k].un<0
   ·have hE:=H6.out k hlt hpl
    have hV9:=HVn.out (by rw [hE];decide)
    subst hE hV9;have hlk:=qdf HI.out X[k].un;rw [if_pos hpl] at hlk;have HLV:=hj_ (show lookV true (rdL R) X[k].un (.slice none 0 0)=.tuple #[.slice none 0 0,.bool false] by
     unfold lookV;rw [if_pos rfl,hlk]
     rfl)
    have HM3:=hj_ (fun (w':World) (h:Below V3.heap.size V3 w')=>(HI.out.below (ht_ HV3.out h)).1)
    have i0:(0:Int)≤(k:Int):=by omega
    have i1:(k:Int)<(X.length:Int):=by omega
    clear hcell hp hpf hy hlk hpll hpl hfv hfit hrn hf1 hf2 hH' H6 HOk HVn HVk HNo HOw hym hyp;generalize X[k]=x at *;obtain ⟨ch,pt,pr,un,ad,ph,cb⟩:=x;obtain ⟨k0,k1,k2,k3,k4,k5,k6⟩:=hk4;have p0:=(kk _).trans k0;have p1:=(kk _).trans k1;have p2:=(kk _).trans k2;have p3:=(kk _).trans k3;have p4:=(kk _).trans k4;have p5:=(kk _).trans k5;have p6:=(kk _).trans k6;clear k0 k1 k2 k3 k4 k5 k6 kk;dsimp only at p0 p1 p2 p3 p4 p5 p6 HLV;obtain ⟨W1,hW1⟩:∃ W1,W1=V3.alloc (.cells #[.int .i64 ch,.int .i64 pt,.string pr,.int .i64 un,.int .i64 ad,.int .i64 ph,.string cb] 55):=⟨_,rfl⟩;have hb1:Below V3.heap.size V3 W1:=by rw [hW1];exact (br_).alloc (Nat.le_refl _) _
    have HBe:=hj_ (HB0.out.trans ((ht_ HB3.out hb1).mono HB0.out.size));have HW1:=hj_ hW1;clear hW1;go_wp2_with (at_lookup;refine q002 _ rfl _ _ _ _ rfl _ _ underlying119 iK (KeyTy.int underlying3) M (rdL R) un rfl rfl (HM3.out _ (by (repeat' first | exact br_ | assumption | apply Below.drew | apply q18 | refine Below.alloc ?_ ?_ _ | refine Below.setCell ?_ ?_ _ | refine Below.trans ?_ (Below.mono ‹_› ?_) | omega | (simp;omega) | simp))) (.slice none 0 0) (by simp) ?_;rw [HLV.out])
    rw [← HW1.out];go_ret2;exact ⟨none,0,rfl,Sh.In.nil _ _,HBe.out⟩
   obtain ⟨i,hi⟩:∃ i:Nat,plI l X[k].un=i:=⟨(plI l X[k].un).toNat,by omega⟩
   have hil:i<l.length:=by have:plI l X[k].un<l.length:=hpll;omega
   have hsz:=HSz.out i hil;have hpg:pgOf l X[k].un=l[i].sl.data.toList:=by unfold pgOf;rw [hi,Int.toNat_natCast,qa1 hil]
   have HOff:=hj_ (fun f:Fea=>show offB l X[k] f=(decide (shV l[i].sl.data.toList X[k].ad f<f.lo) || decide (f.hi<shV l[i].sl.data.toList X[k].ad f)) from by unfold offB;rw [hpg])
   have hsx:=q07v (l:=l) (PL:=PL) hlt;have hy40:=H40.out X[k] (List.getElem_mem hlt);rw [hfv] at hfit hsx hy40;have hq0:=q07u (l:=l) (PL:=PL) (X:=X.take k) fun z hz=>H40.out z (List.mem_of_mem_take hz)
   have hq1:(offX l PL (X.take k)).length≤2560:=by have:=HX64.out;rw [List.length_take] at hq0;omega
   have HNx:=hj_ (show ∀ j (hj:j<X.length),j<k+1→¬ plI l X[j].un<0 from fun j hj hjk=>by
    by_cases e:j=k
    ·subst e;exact hpl
    ·exact HNo.out j hj (by omega))
   have hiR:i<R.length:=by rw [HI.out.2.2.1];exact hil
   obtain ⟨-,-,-,hcc⟩:=HI.out.2.2.2.1 i hiR hil;have hlk:=qdf HI.out X[k].un;rw [if_neg (by omega),hi,Int.toNat_natCast,List.getElem?_eq_getElem hiR] at hlk
   have HLV:=hj_ (show lookV true (rdL R) X[k].un (.slice none 0 0)=.tuple #[.slice (some ⟨R[i].2.1,0,none⟩) 512 R[i].2.2,.bool true] by
    unfold lookV;rw [if_pos rfl,hlk]
    rfl)
   have i0:(0:Int)≤(k:Int):=by omega
   have i1:(k:Int)<(X.length:Int):=by omega
   have w0:IntKind.i64.wrap ((k:Int)+1)=(k:Int)+1:=IntWalk.i64_in _ (by have:=HX64.out;omega)
   have HPf2:=hj_ (fun w h1=>HPf.out X[k] p w h1 hp)
   have hlen:l[i].sl.data.toList.length=512:=by
    have:l[i].sl.data.toList.length=l[i].sl.size:=by simp
    omega
   have HRw:=hj_ (fun (f:FC) (wl:List Slt) (w:World) (h1:Cells w R[i].2.1 (byV l[i].sl.data.toList)) (h3:1≤X[k].ad∧X[k].ad≤512) (h4:FitF X[k].ad (f.fea wl))=>q01e R[i].2.1 R[i].2.2 l[i].sl.data.toList X[k] f wl w h1 hlen h3 h4)
   clear hlen;clear hcell hp hpf hy hlk hpll hpl hpg hsz hfv hq0 H6 HOk HVn HVk HNo;generalize R[i].2.1=RB at *;generalize R[i].2.2=RC at *
   try clear hiR
   generalize l[i].sl.data.toList=pg at *;clear hi
   try clear hil
   generalize X[k]=x at *;generalize offX l PL (X.take k)=Q0 at *;obtain ⟨ch,pt,pr,un,ad,ph,cb⟩:=x;obtain ⟨k0,k1,k2,k3,k4,k5,k6⟩:=hk4;have p0:=(kk _).trans k0;have p1:=(kk _).trans k1;have p2:=(kk _).trans k2;have p3:=(kk _).trans k3;have p4:=(kk _).trans k4;have p5:=(kk _).trans k5;have p6:=(kk _).trans k6;clear k0 k1 k2 k3 k4 k5 k6 kk;have had:1≤ad∧ad≤512:=by
    unfold qkt at hrn;simp only [Bool.and_eq_true,decide_eq_true_eq] at hrn;exact hrn.1.2
   dsimp only at p0 p1 p2 p3 p4 p5 p6 hfit HLV;obtain ⟨⟨ys,yf,yw,yA,yn,yc⟩,yl⟩:=y;dsimp only at hyp hfit hH' hsx hy40;subst hyp;have HH':=hj_ hH';have HFit:=hj_ hfit;have HSx:=hj_ hsx;have HQ:=hj_ (And.intro hq1 hy40);replace HPf2:=hj_ (show ∀ w',shPr.In w' A1 n1 (PL.map Prod.fst)→Calls prog 61 #[.agg #[.slice A0 n0 d0,.slice A1 n1 d1,.slice (some ⟨b,o,none⟩) X.length d2],.agg #[.int .i64 ch,.int .i64 pt,.string pr,.int .i64 un,.int .i64 ad,.int .i64 ph,.string cb]] w' fun e w''=>e=.returned (.agg #[.string ys,.int .i64 yf,.int .i64 yw,.slice yA yn yc])∧Below w'.heap.size w' w'' from HPf2.out)
   replace HRw:=hj_ (fun (f:FC) (wl:List Slt) (w:World) (h1:Cells w RB (byV pg)) (h4:FitF ad (f.fea wl))=>show Calls prog 74 #[.slice (some ⟨RB,0,none⟩) 512 RC,.agg #[.int .i64 ch,.int .i64 pt,.string pr,.int .i64 un,.int .i64 ad,.int .i64 ph,.string cb],f.val] w fun e w'=>e=.returned (.int .i64 (shV pg ad (f.fea wl)))∧Below w.heap.size w w' from HRw.out f wl w h1 had h4)
   obtain ⟨W1,hW1⟩:∃ W1,W1=V3.alloc (.cells #[.int .i64 ch,.int .i64 pt,.string pr,.int .i64 un,.int .i64 ad,.int .i64 ph,.string cb] 55):=⟨_,rfl⟩;have hb1:Below V3.heap.size V3 W1:=by rw [hW1];exact (br_).alloc (Nat.le_refl _) _
   have HX1:=hj_ (show RowAt W1 V3.heap.size #[.int .i64 ch,.int .i64 pt,.string pr,.int .i64 un,.int .i64 ad,.int .i64 ph,.string cb] 55 by rw [hW1];exact RowAt.fresh V3 _ _)
   have HO1:=hj_ (qfq HOw.out hb1);have HV1:=hj_ (ht_ HV3.out hb1);have HB1:=hj_ (ht_ HB3.out hb1);have HM1:=hj_ (fun (w':World) (h:Below V3.heap.size V3 w')=>(HI.out.below (ht_ HV3.out h)).1)
   have HCc:=hj_ (fun (w':World) (h:Below V.heap.size V w')=>hcc.below h hcc.1)
   have HBb:=hj_ (fun (w':World) (h:Below V.heap.size V w')=>ht_ HBV.out h)
   have HW1:=hj_ hW1;have n1:w.heap.size<V3.heap.size:=Nat.lt_of_lt_of_le (by rw [HW.out];simp) HB3.out.size
   have n2:¬ w.heap.size=V3.heap.size:=by omega
   have hfl:∀ w,(Instr.field 87 (.agg #[.string ys,.int .i64 yf,.int .i64 yw,.slice yA yn yc]) 3).run prog w=.ok (.slice yA yn yc) w:=fun w=>by rfl
   obtain ⟨c0,c1,c2⟩:=HK.out _ HB3.out;have hb1':=hb1;clear hW1 hH' hfit hrn hf1 hf2 had hcc hym hsx hq1 hy40;go_wp2_with (at_lookup;refine q002 _ rfl _ _ _ _ rfl _ _ underlying119 iK (KeyTy.int underlying3) M (rdL R) un rfl rfl (HM1.out _ (by (repeat' first | exact br_ | assumption | apply Below.drew | apply q18 | refine Below.alloc ?_ ?_ _ | refine Below.setCell ?_ ?_ _ | refine Below.trans ?_ (Below.mono ‹_› ?_) | omega | (simp;omega) | simp))) (.slice none 0 0) (by simp) ?_;rw [HLV.out])
   rw [← HW1.out];refine (HPf2.out _ (HP.out.below HB1.out).1).mono ?_;rintro e w5 ⟨rfl,hb⟩;have HV5:=hj_ (ht_ HV1.out hb);have HX5:=hj_ (HX1.out.below hb HX1.out.lt);have HO5:=hj_ (qfq HO1.out hb);have hynl:yn=yl.length:=by have:=HH'.out.1.1.1;have:=HH'.out.1.2.1;omega
   have hyn2:=HH'.out.2.1;subst hynl;have hz1:=hb.size;clear hb hz1 hb1 hb1' c0 c1 c2 p0 p1 p2 p3 p4 p5 p6;go_wp2_with fail
   go_loopw [8,45] (fun vo iv w6=>∃ j:Nat,j≤yl.length∧iv=.int .i64 j∧w6.ownsRow V.heap.size 43 2 vo (Q0 ++ offF l ⟨ch,pt,pr,un,ad,ph,cb⟩ (yl.take j)).length (shP.vs (Q0 ++ offF l ⟨ch,pt,pr,un,ad,ph,cb⟩ (yl.take j)))∧Below V.heap.size V w6∧RowAt w6 V3.heap.size #[.int .i64 ch,.int .i64 pt,.string pr,.int .i64 un,.int .i64 ad,.int .i64 ph,.string cb] 55) (fun _ iv _=>yl.length-(intOf iv).toNat)
   case atStart=>exact ⟨0,Nat.zero_le _,rfl,by simpa [offF] using HO5.out,HV5.out,HX5.out⟩
   case round =>
    obtain ⟨j,hj,rfl,hown6,h6,hR6⟩:=hrel;generalize hDD:Q0 ++ offF l ⟨ch,pt,pr,un,ad,ph,cb⟩ (yl.take j)=DD at *;have HDD:=hj_ hDD;clear hDD;obtain ⟨Ao6,co6,rfl⟩:=qfu hown6;have HO6:=hj_ hown6;have HV6:=hj_ h6;have HB6:=hj_ (HBb.out _ HV6.out);have HR6:=hj_ hR6;clear hown6 h6
    by_cases hlt2:j<yl.length
    case neg =>
     obtain rfl:j=yl.length:=by omega
     have hqe:=HDD.out;rw [List.take_length] at hqe;have HQe:=hj_ hqe;clear hR6 hqe;go_wp2_with fail
     go_roundw
     case rel=>exact ⟨k+1,hlt,by go_num,fun j hj hjk=>by have:=HNx.out j hj hjk;omega,by rw [HSx.out,HQe.out];exact HO6.out,HV6.out⟩
     case measure=>simp [intOf];omega
    case pos =>
     have hjH:j<H'.length:=by have:=HH'.out.1.2.1;omega
     obtain ⟨b2,o2,rfl,hbl2,hc2⟩:=ft_at HH'.out.1.1 (by omega)
     have hkf:=hc2 j hjH;have kk:=fun (q:Nat)=>HB6.out.cell (p:=⟨b2,q,none⟩) hbl2
     have hbw2:b2<wr.heap.size:=Nat.lt_of_lt_of_le hbl2 HB6.out.size;have hfx:=(HH'.out.1.2.2 j hjH hlt2).1;have hfit:=HFit.out yl[j] (List.getElem_mem hlt2);have hst:=q07t (l:=l) (x:=⟨ch,pt,pr,un,ad,ph,cb⟩) hlt2;rw [HOff.out] at hst;have hl2:=q07s l ⟨ch,pt,pr,un,ad,ph,cb⟩ (yl.take j);have hlq:DD.length≤4096:=by rw [← HDD.out,List.length_append];rw [List.length_take] at hl2;have:=HQ.out;omega
     have j0:(0:Int)≤(j:Int):=by omega
     have j1:(j:Int)<(yl.length:Int):=by omega
     have w1:IntKind.i64.wrap ((j:Int)+1)=(j:Int)+1:=IntWalk.i64_in _ (by omega)
     rw [hfx] at hfit hst;generalize yl[j].wh=wh at *;clear hfx hc2;generalize H'[j]=f at *;obtain ⟨at_,bits,co,fi,cu,ho,lo,hi',sn,fA,fn,fc⟩:=f
     obtain ⟨k0,k1,k2,k3,k4,k5,k6,k7,k8,k9⟩:=hkf;have p0:=(kk _).trans k0;have p1:=(kk _).trans k1;have p2:=(kk _).trans k2;have p3:=(kk _).trans k3;have p4:=(kk _).trans k4;have p5:=(kk _).trans k5;have p6:=(kk _).trans k6;have p7:=(kk _).trans k7;have p8:=(kk _).trans k8;have p9:=(kk _).trans k9;clear k0 k1 k2 k3 k4 k5 k6 k7 k8 k9 kk;dsimp only at p0 p1 p2 p3 p4 p5 p6 p7 p8 p9;obtain ⟨W7,hW7⟩:∃ W7,W7=wr.alloc (.cells #[.int .i64 at_,.int .i64 bits,.int .i64 co,.int .i64 fi,.int .i64 cu,.int .i64 ho,.int .i64 lo,.int .i64 hi',.bool sn,.slice fA fn fc] 90):=⟨_,rfl⟩
     have hb7:Below wr.heap.size wr W7:=by rw [hW7];exact (br_).alloc (Nat.le_refl _) _
     have HY7:=hj_ (show Cells W7 wr.heap.size [.int .i64 at_,.int .i64 bits,.int .i64 co,.int .i64 fi,.int .i64 cu,.int .i64 ho,.int .i64 lo,.int .i64 hi',.bool sn,.slice fA fn fc] by rw [hW7];exact Cells.fresh wr [.int .i64 at_,.int .i64 bits,.int .i64 co,.int .i64 fi,.int .i64 cu,.int .i64 ho,.int .i64 lo,.int .i64 hi',.bool sn,.slice fA fn fc] _)
     have HV7:=hj_ (ht_ HV6.out hb7);have HO7:=hj_ (qfq HO6.out hb7);have HR7:=hj_ (hR6.below hb7 hR6.lt);have HW7:=hj_ hW7;have m1:V3.heap.size<wr.heap.size:=hR6.lt;have m2:¬ V3.heap.size=wr.heap.size:=by omega
     have x0:=hR6.cell (j:=0) (u:=.int .i64 ch) rfl;have x1:=hR6.cell (j:=1) (u:=.int .i64 pt) rfl;have x2:=hR6.cell (j:=2) (u:=.string pr) rfl;have x3:=hR6.cell (j:=3) (u:=.int .i64 un) rfl;have x4:=hR6.cell (j:=4) (u:=.int .i64 ad) rfl;have x5:=hR6.cell (j:=5) (u:=.int .i64 ph) rfl;have x6:=hR6.cell (j:=6) (u:=.string cb) rfl;have hrw:=HRw.out ⟨at_,bits,co,fi,cu,ho,lo,hi',sn,fA,fn,fc⟩ wh W7 (HCc.out _ HV7.out) hfit
     replace hrw:=(show Calls prog 74 #[.slice (some ⟨RB,0,none⟩) 512 RC,.agg #[.int .i64 ch,.int .i64 pt,.string pr,.int .i64 un,.int .i64 ad,.int .i64 ph,.string cb],.agg #[.int .i64 at_,.int .i64 bits,.int .i64 co,.int .i64 fi,.int .i64 cu,.int .i64 ho,.int .i64 lo,.int .i64 hi',.bool sn,.slice fA fn fc]] W7 fun e w'=>e=.returned (.int .i64 (shV pg ad (FC.fea ⟨at_,bits,co,fi,cu,ho,lo,hi',sn,fA,fn,fc⟩ wh)))∧Below W7.heap.size W7 w' from hrw)
     have hst2:(if (decide (shV pg ad (FC.fea ⟨at_,bits,co,fi,cu,ho,lo,hi',sn,fA,fn,fc⟩ wh)<lo) || decide (hi' < shV pg ad (FC.fea ⟨at_,bits,co,fi,cu,ho,lo,hi',sn,fA,fn,fc⟩ wh)))=true then offF l ⟨ch,pt,pr,un,ad,ph,cb⟩ (yl.take j) ++ [(ch,at_)] else offF l ⟨ch,pt,pr,un,ad,ph,cb⟩ (yl.take j))=offF l ⟨ch,pt,pr,un,ad,ph,cb⟩ (yl.take (j+1)):=hst.symm
     generalize shV pg ad (FC.fea ⟨at_,bits,co,fi,cu,ho,lo,hi',sn,fA,fn,fc⟩ wh)=vv at *
     have HRr:=hj_ hrw;have HLq:=hj_ hlq;clear hrw hst hfit hW7 hb7 hR6 hbl2 hjH hl2 hlq
     by_cases g1:vv<lo
     case pos =>
      rw [decide_eq_true g1,Bool.true_or,if_pos rfl] at hst2;have HSt:=hj_ (show (Q0 ++ offF l ⟨ch,pt,pr,un,ad,ph,cb⟩ (yl.take (j+1))).length=DD.length+1∧shP.vs (Q0 ++ offF l ⟨ch,pt,pr,un,ad,ph,cb⟩ (yl.take (j+1)))=shP.vs DD ++ [.int .i64 ch,.int .i64 at_] from by
       rw [← hst2,← List.append_assoc,HDD.out,List.length_append,Sh.vs_append];exact ⟨rfl,rfl⟩)
      clear hst2;go_wp2_with fail;rw [← HW7.out];refine HRr.out.mono ?_;rintro e w8 ⟨rfl,hb⟩;have HV8:=hj_ (ht_ HV7.out hb);have hown8:=qfq HO7.out hb;have hR8:=HR7.out.below hb HR7.out.lt;have HR8:=hj_ hR8;have HY8:=hj_ (HY7.out.below hb HY7.out.1);have y6:=HY8.out.at_ (j:=6) rfl
      have y7:=HY8.out.at_ (j:=7) rfl
      have y0:=HY8.out.at_ (j:=0) rfl
      clear x0 x1 x2 x3 x4 x5 x6 p0 p1 p2 p3 p4 p5 p6 p7 p8 p9;have x0:=hR8.cell (j:=0) (u:=.int .i64 ch) rfl;have hsz:=HV8.out.size;have hlD:=HLq.out;clear hb hR8;go_wp2_with (at_builtin;refine q003 rfl _ _ _ rfl V.heap.size _ _ 2 16 underlying61 infoPm rfl (by omega) _ DD.length (shP.vs DD) rfl hown8 [.int .i64 ch,.int .i64 at_] _ _ _ rfl (by first | rfl | simp) rfl (pt_one _ _) (by unfold maxLen;omega) (by omega) (by first | omega | (simp;omega) | simp) ?_;intro g cap w1 hown1 hg1)
      go_roundw
      case rel=>exact ⟨j+1,hlt2,by go_num,by rw [HSt.out.1,HSt.out.2];exact hown1,q1a HV8.out (Nat.le_refl _) hown8 hg1,qn6 HR8.out hown8 (by decide) hg1⟩
      case measure=>simp [intOf];omega
     case neg =>
      rw [decide_eq_false g1,Bool.false_or] at hst2
      by_cases g2:hi' < vv
      case pos =>
       rw [decide_eq_true g2,if_pos rfl] at hst2;have HSt:=hj_ (show (Q0 ++ offF l ⟨ch,pt,pr,un,ad,ph,cb⟩ (yl.take (j+1))).length=DD.length+1∧shP.vs (Q0 ++ offF l ⟨ch,pt,pr,un,ad,ph,cb⟩ (yl.take (j+1)))=shP.vs DD ++ [.int .i64 ch,.int .i64 at_] from by
        rw [← hst2,← List.append_assoc,HDD.out,List.length_append,Sh.vs_append];exact ⟨rfl,rfl⟩)
       clear hst2;go_wp2_with fail;rw [← HW7.out];refine HRr.out.mono ?_;rintro e w8 ⟨rfl,hb⟩;have HV8:=hj_ (ht_ HV7.out hb);have hown8:=qfq HO7.out hb;have hR8:=HR7.out.below hb HR7.out.lt;have HR8:=hj_ hR8;have HY8:=hj_ (HY7.out.below hb HY7.out.1);have y6:=HY8.out.at_ (j:=6) rfl
       have y7:=HY8.out.at_ (j:=7) rfl
       have y0:=HY8.out.at_ (j:=0) rfl
       clear x0 x1 x2 x3 x4 x5 x6 p0 p1 p2 p3 p4 p5 p6 p7 p8 p9;have x0:=hR8.cell (j:=0) (u:=.int .i64 ch) rfl;have hsz:=HV8.out.size;have hlD:=HLq.out;clear hb hR8;go_wp2_with (at_builtin;refine q003 rfl _ _ _ rfl V.heap.size _ _ 2 16 underlying61 infoPm rfl (by omega) _ DD.length (shP.vs DD) rfl hown8 [.int .i64 ch,.int .i64 at_] _ _ _ rfl (by first | rfl | simp) rfl (pt_one _ _) (by unfold maxLen;omega) (by omega) (by first | omega | (simp;omega) | simp) ?_;intro g cap w1 hown1 hg1)
       go_roundw
       case rel=>exact ⟨j+1,hlt2,by go_num,by rw [HSt.out.1,HSt.out.2];exact hown1,q1a HV8.out (Nat.le_refl _) hown8 hg1,qn6 HR8.out hown8 (by decide) hg1⟩
       case measure=>simp [intOf];omega
      case neg =>
       rw [decide_eq_false g2,if_neg Bool.false_ne_true] at hst2;have HSt:=hj_ (show Q0 ++ offF l ⟨ch,pt,pr,un,ad,ph,cb⟩ (yl.take (j+1))=DD from by rw [← hst2];exact HDD.out)
       clear hst2;go_wp2_with fail;rw [← HW7.out];refine HRr.out.mono ?_;rintro e w8 ⟨rfl,hb⟩;have HV8:=hj_ (ht_ HV7.out hb);have hown8:=qfq HO7.out hb;have hR8:=HR7.out.below hb HR7.out.lt;have HR8:=hj_ hR8;have HY8:=hj_ (HY7.out.below hb HY7.out.1);have y6:=HY8.out.at_ (j:=6) rfl
       have y7:=HY8.out.at_ (j:=7) rfl
       have HO8:=hj_ hown8;clear hb hown8 hR8 x0 x1 x2 x3 x4 x5 x6 p0 p1 p2 p3 p4 p5 p6 p7 p8 p9;go_wp2_with fail
       go_roundw
       case rel=>exact ⟨j+1,hlt2,by go_num,by rw [HSt.out];exact HO8.out,HV8.out,HR8.out⟩
       case measure=>simp [intOf];omega
end

end Go.Proofs.YtbfikenbgfnfiaaGreatDoor
