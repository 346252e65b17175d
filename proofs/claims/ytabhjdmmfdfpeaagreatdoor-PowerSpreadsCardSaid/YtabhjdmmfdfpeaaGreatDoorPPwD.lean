/- Lemmas. -/
import Derived.Test.YtabhjdmmfdfpeaaGreatDoorPPwC
namespace Go.Proofs.YtabhjdmmfdfpeaaGreatDoor
set_option maxHeartbeats 32000000
set_option maxRecDepth 100000
open _root_.Go.Proofs.Tryz
open Go.RowKit
variable {a b d e h i len m mid n p q s:Nat}
section
variable {α:Type}
theorem ins_up {cf:α→α→Int} {d d':List α} {x:α} (h1:a+1≤i) (h2:i≤b) (hx:d[a]? = some x) (sb:SegS cf (a+1) b d) (p1:∀ (q:Nat) y,a+1≤q→q<i→d[q]? = some y→0≤cf x y) (p2:∀ (q:Nat) y,i≤q→q<b→d[q]? = some y→0≤cf y x) (h:Mv (rotI a (a+1) i) d d'):SegS cf a b d':=by
 have r1:∀ k,a≤k→k+1<i→rotI a (a+1) i k=k+1:=fun k q1 q2=>by unfold rotI;repeat' split <;> try omega
 have r2:rotI a (a+1) i (i-1)=a:=by unfold rotI;repeat' split <;> try omega
 have r3:∀ k,i≤k→rotI a (a+1) i k=k:=fun k q1=>by unfold rotI;repeat' split <;> try omega
 intro p q u v q1 q2 q3 hp hq;rw [h.at_] at hp hq
 by_cases e1:p+1<i
 ·rw [r1 _ q1 e1] at hp
  by_cases e2:q+1<i
  ·rw [r1 _ o_ e2] at hq
   exact sb _ _ u v o_ o_ o_ hp hq
  ·by_cases e3:q+1=i
   ·rw [show q=i-1 by omega,r2,hx] at hq
    injection hq with hq
    subst hq;exact p1 _ u o_ e1 hp
   ·rw [r3 _ o_] at hq
    exact sb _ _ u v o_ o_ q3 hp hq
 ·by_cases e3:p+1=i
  ·rw [show p=i-1 by omega,r2,hx] at hp
   injection hp with hp
   subst hp;rw [r3 _ o_] at hq
   exact p2 _ v o_ q3 hq
  ·rw [r3 _ o_] at hp hq
   exact sb _ _ u v o_ q2 q3 hp hq
theorem q0fh {cf:α→α→Int} {d d':List α} {x:α} (h1:a≤i) (h2:i≤m) (hx:d[m]? = some x) (sa:SegS cf a m d) (p1:∀ (q:Nat) y,a≤q→q<i→d[q]? = some y→0≤cf x y) (p2:∀ (q:Nat) y,i≤q→q<m→d[q]? = some y→0≤cf y x) (h:Mv (rotI i m (m+1)) d d'):SegS cf a (m+1) d':=by
 have r1:∀ k,k<i→rotI i m (m+1) k=k:=fun k q1=>by unfold rotI;repeat' split <;> try omega
 have r2:rotI i m (m+1) i=m:=by unfold rotI;repeat' split <;> try omega
 have r3:∀ k,i<k→k≤m→rotI i m (m+1) k=k-1:=fun k q1 q2=>by unfold rotI;repeat' split <;> try omega
 intro p q u v q1 q2 q3 hp hq;rw [h.at_] at hp hq
 by_cases e1:p<i
 ·rw [r1 _ e1] at hp
  by_cases e2:q<i
  ·rw [r1 _ e2] at hq
   exact sa _ _ u v q1 q2 o_ hp hq
  ·by_cases e3:q=i
   ·rw [e3,r2,hx] at hq
    injection hq with hq
    subst hq;exact p1 _ u q1 e1 hp
   ·rw [r3 _ o_ o_] at hq
    exact sa _ _ u v q1 o_ o_ hp hq
 ·by_cases e3:p=i
  ·rw [e3,r2,hx] at hp
   injection hp with hp
   subst hp;rw [r3 _ o_ o_] at hq
   exact p2 _ v o_ o_ hq
  ·rw [r3 _ o_ o_] at hp hq
   exact sa _ _ u v o_ o_ o_ hp hq
theorem seg_ul {cf:α→α→Int} (hT:∀ x y z,0≤cf y x→0≤cf z y→0≤cf z x) {d:List α} {x y z:α} (hs:SegS cf m b d) (hx:d[h]? = some x) (hy:d[q]? = some y) (hc:cf x z<0) (h1:m≤q) (h2:q≤h) (h3:h<b):cf y z<0:=by
 rcases Nat.lt_or_eq_of_le h2 with h4 | rfl
 ·rcases Int.lt_or_le (cf y z) 0 with h5 | h5
  ·exact h5
  ·exact absurd (hT z y x h5 (hs q h y x h1 h4 h3 hy hx)) o_
 ·rw [hx] at hy;injection hy with hy;subst hy;exact hc
theorem seg_ug {cf:α→α→Int} (hT:∀ x y z,0≤cf y x→0≤cf z y→0≤cf z x) {d:List α} {x y z:α} (hs:SegS cf m b d) (hx:d[h]? = some x) (hy:d[q]? = some y) (hc:0≤cf x z) (h1:m≤h) (h2:h≤q) (h3:q<b):0≤cf y z:=by
 rcases Nat.lt_or_eq_of_le h2 with h4 | rfl
 ·exact hT z x y hc (hs h q x y h1 h4 h3 hx hy)
 ·rw [hx] at hy;injection hy with hy;subst hy;exact hc
theorem seg_dl {cf:α→α→Int} (hT:∀ x y z,0≤cf y x→0≤cf z y→0≤cf z x) {d:List α} {x y z:α} (hs:SegS cf a m d) (hx:d[h]? = some x) (hy:d[q]? = some y) (hc:cf z x<0) (h1:a≤h) (h2:h≤q) (h3:q<m):cf z y<0:=by
 rcases Nat.lt_or_eq_of_le h2 with h4 | rfl
 ·rcases Int.lt_or_le (cf z y) 0 with h5 | h5
  ·exact h5
  ·exact absurd (hT x y z (hs h q x y h1 h4 h3 hx hy) h5) o_
 ·rw [hx] at hy;injection hy with hy;subst hy;exact hc
theorem seg_dg {cf:α→α→Int} (hT:∀ x y z,0≤cf y x→0≤cf z y→0≤cf z x) {d:List α} {x y z:α} (hs:SegS cf a m d) (hx:d[h]? = some x) (hy:d[q]? = some y) (hc:0≤cf z x) (h1:a≤q) (h2:q≤h) (h3:h<m):0≤cf z y:=by
 rcases Nat.lt_or_eq_of_le h2 with h4 | rfl
 ·exact hT y x z (hs q h y x h1 h4 h3 hy hx) hc
 ·rw [hx] at hy;injection hy with hy;subst hy;exact hc
theorem lf1 {cf:α→α→Int} {d d1:List α} (hT:∀ x y z,0≤cf y x→0≤cf z y→0≤cf z x) (h:Mv (rotI s m e) d d1) (F:mid=s+(e-m)∧a≤s∧s≤m∧m≤e∧e≤b∧a<mid∧mid<b∧b≤len∧s≤mid∧mid≤e) (sa:SegS cf a m d) (sb:SegS cf m b d)
  (c1:s=a∨e=b∨∃ x y,d[s-1]? = some x∧d[e]? = some y∧0≤cf y x) (c2:s=m∨e=m∨∃ x y,d[e-1]? = some x∧d[s]? = some y∧0≤cf y x):PI a b d d1∧SegS cf a s d1∧SegS cf s mid d1∧SegS cf mid e d1∧SegS cf e b d1∧Cr cf a mid b d1:=by
 obtain ⟨rfl,h1,h2,h3,h4,_⟩:=F;exact ⟨rot_pi h h1 h2 h3 h4,q0hj hT h h1 h2 h3 h4 sa sb c1 c2⟩
theorem lf2 {cf:α→α→Int} {d d1 d2:List α} (F:mid=s+(e-m)∧a≤s∧s≤m∧m≤e∧e≤b∧a<mid∧mid<b∧b≤len∧s≤mid∧mid≤e) (Q:PI a b d d1∧SegS cf a s d1∧SegS cf s mid d1∧SegS cf mid e d1∧SegS cf e b d1∧Cr cf a mid b d1) (P2:PI a mid d1 d2):SegS cf mid e d2∧SegS cf e b d2 :=
 ⟨Q.2.2.2.1.far P2 (Or.inr lr_),Q.2.2.2.2.1.far P2 (Or.inr o_)⟩
theorem lf3 {cf:α→α→Int} {d d1 d2 d3:List α} (F:mid=s+(e-m)∧a≤s∧s≤m∧m≤e∧e≤b∧a<mid∧mid<b∧b≤len∧s≤mid∧mid≤e) (Q:PI a b d d1∧SegS cf a s d1∧SegS cf s mid d1∧SegS cf mid e d1∧SegS cf e b d1∧Cr cf a mid b d1) (P2:PI a mid d1 d2) (P3:PI mid b d2 d3) (L2:SegS cf a mid d2) (L3:SegS cf mid b d3):PI a b d d3∧SegS cf a b d3 :=
 ⟨(Q.1.trans (P2.wide lr_ o_)).trans (P3.wide o_ lr_),SegS.join (L2.far P3 (Or.inl lr_)) L3 ((Q.2.2.2.2.2.left P2).right P3)⟩
end
theorem q0iw (g:Nat) (cb:Array Value) (cf:Value→Value→Int) (B c:Nat) (t:TypeId) (sp d0:List Value) (w0:World) (eg:∀ args w,(callFunc g args).run prog w=.ok (.enter g args) w) (hT:∀ x y z,0≤cf y x→0≤cf z y→0≤cf z x) (hA:∀ x y,cf x y<0→0≤cf y x)
  (hcmp:∀ w',w0.grownBy w' (some B)→∀ x ∈ d0,∀ y ∈ d0,Calls prog g (#[x,y] ++ cb) w' fun e w''=>e=.returned (.int .i64 (cf x y))∧Below w'.heap.size w' w'') (h1c:∀ x ∈ d0,∃ A n c,x=.slice A n c) (len:Nat) (hlen:d0.length=len) (hsz:len<2305843009213693951):∀ (N a m b:Nat) (d:List Value) (w:World),b-a≤N→SR w0 B t sp d w→d.Perm d0→a<m→m<b→b≤len→SegS cf a m d→SegS cf m b d →
  Calls prog 111 #[.slice (some ⟨B,0,none⟩) len c,.int .i64 a,.int .i64 m,.int .i64 b,.func (.func g) #[] cb] w fun e w'=>e=.returned (.tuple #[])∧∃ d',PI a b d d'∧SegS cf a b d'∧SR w0 B t sp d' w':=by
 have mixed:prog.follows Departure.mixedOrders=true:=k_
 have HT:=hj_ hT;have HA:=hj_ hA;have HC:=hj_ hcmp;have H1:=hj_ h1c;have HL0:=hj_ hlen;clear hT hA hcmp h1c hlen;intro N
 induction N with
 | zero=>intro a m b d w h0 _ _ h1 h2;omega
 | succ N ih =>
 intro a m b d w h0 hS hp ham hmb hb hsa hsb;have HRec:=hj_ ih;have HS0:=hj_ hS;have HP0:=hj_ hp;have HSa:=hj_ hsa;have HSb:=hj_ hsb;have hld:d.length=len:=hp.length_eq.trans HL0.out;have HN:=hj_ h0;clear ih hS hp hsa hsb h0
 by_cases e1:m=a+1
 ·subst e1
  have k1:IntKind.i64.wrap (((a+1:Nat):Int)-(a:Int))=1:=by rw [show ((a+1:Nat):Int)-(a:Int)=1 by omega];rfl
  have k2:(a:Int)<(len:Int):=o_
  go_enter func111,ntmps111
  rw [show ((a+1:Nat):Int)=(a:Int)+1 by omega] at *
  go_wp2_with fail
  go_loopw [10,11] (fun iv jv wr=>∃ (i j:Nat),iv=.int .i64 i∧jv=.int .i64 j∧a+1≤i∧i≤j∧j≤b∧Hid (∀ (q:Nat) y z,a+1≤q→q<i→d[q]? = some y→d[a]? = some z→cf y z<0)∧Hid (∀ (q:Nat) y z,j≤q→q<b→d[q]? = some y→d[a]? = some z→0≤cf y z)∧SR w0 B t sp d wr) (fun iv jv _=>(intOf jv-intOf iv).toNat)
  case atStart=>exact ⟨a+1,b,by go_num,rfl,Nat.le_refl _,o_,Nat.le_refl _,hj_ (fun q y z h1 h2=>o_),hj_ (fun q y z h1 h2=>o_),HS0.out⟩
  case round =>
   obtain ⟨i,j,rfl,rfl,hai,hij,hjb,P1,P2,hs⟩:=hrel;have HSr:=hj_ hs;clear hs
   by_cases hlt:i<j
   ·have hltz:(i:Int)<(j:Int):=by omega
    have q1:(0:Int)≤((i:Int)+(j:Int)) / 2:=o_
    have q2:((i:Int)+(j:Int)) / 2<(len:Int):=o_
    have q3:(((i:Int)+(j:Int)) / 2).toNat=(i+j) / 2:=o_
    have q4:IntKind.i64.wrap (((i:Int)+(j:Int)) / 2)=((i:Int)+(j:Int)) / 2:=IntWalk.i64_in _ o_
    obtain ⟨x,hx⟩:∃ x,d[(i+j) / 2]? = some x:=⟨_,List.getElem?_eq_getElem o_⟩
    obtain ⟨y,hy⟩:∃ y,d[a]? = some y:=⟨_,List.getElem?_eq_getElem o_⟩
    have HCxy:=hj_ (fun w' (h:SR w0 B t sp d w')=>HC.out w' h.gr x (HP0.out.subset (List.mem_of_getElem? hx)) y (HP0.out.subset (List.mem_of_getElem? hy)))
    have HSd:=hj_ (HSr.out.drewN 1);have l1:=HSd.out.cell hx;have l2:=HSd.out.cell hy;go_wp2_with fail;refine wp_region_held_drew (S:=fun w'=>w'.cell? ⟨B,(i+j) / 2,none⟩=some x∧w'.cell? ⟨B,a,none⟩=some y) k_ ⟨l1,l2⟩ (fun hHeld=>?_)
    refine tq 0 ?_;refine tq 1 ?_;refine tq 2 ?_;refine tq 3 ?_;refine tq 4 ?_;refine tq 5 ?_;refine tq 6 ?_;refine tq 7 ?_;refine tq 8 ?_;refine tr 9 fun K hK=>?_
    go_simp
    go_at_fn g;refine (HCxy.out _ HSd.out).mono ?_;rintro e w2 ⟨rfl,hb⟩;have hS2:=HSd.out.below hb;have HS2:=hj_ hS2;have l1:=hS2.cell hx;have l2:=hS2.cell hy;clear hS2 hb
    go_wp2_with fail;refine hK.out _ _ ⟨l1,l2⟩ (fun hHeld=>?_)
    clear hK K;refine tq 10 ?_;refine wpAnyH_done k_ ?_ _
    by_cases hc:cf x y<0
    ·rw [decide_eq_true hc]
     have R1:=hj_ (fun (q:Nat) u z (h1:a+1≤q) (h2:q<(i+j) / 2+1) (hq:d[q]? = some u) (hz:d[a]? = some z)=>show cf u z<0 from by
      rw [hy] at hz;injection hz with hz;subst hz
      exact seg_ul HT.out HSb.out hx hq hc h1 o_ o_)
     clear l1 l2 hc hx hy;go_wp2_with fail
     go_roundw
     case rel=>exact ⟨(i+j) / 2+1,j,by rw [show ((i:Int)+(j:Int)) / 2+1=(((i+j) / 2+1:Nat):Int) by omega],rfl,o_,o_,hjb,R1,P2,HS2.out⟩
     case measure=>simp [intOf];omega
    ·rw [decide_eq_false hc]
     have R1:=hj_ (fun (q:Nat) u z (h1:(i+j) / 2≤q) (h2:q<b) (hq:d[q]? = some u) (hz:d[a]? = some z)=>show 0≤cf u z from by
      rw [hy] at hz;injection hz with hz;subst hz
      exact seg_ug HT.out HSb.out hx hq (Int.not_lt.1 hc) o_ h1 h2)
     clear l1 l2 hc hx hy;go_wp2_with fail
     go_roundw
     case rel=>exact ⟨i,(i+j) / 2,rfl,by rw [show ((i:Int)+(j:Int)) / 2=(((i+j) / 2:Nat):Int) by omega],hai,o_,o_,P1,R1,HS2.out⟩
     case measure=>simp [intOf];omega
   ·obtain rfl:i=j:=by omega
    have hltz:¬ (i:Int)<(i:Int):=o_
    have k3:IntKind.i64.wrap ((i:Int)-1)=((i-1:Nat):Int):=by rw [show ((i-1:Nat):Int)=(i:Int)-1 by omega];exact IntWalk.i64_in _ o_
    rename World=>V1
    go_wp2_with fail
    go_loopw [13] (fun kv wr=>∃ (k:Nat) (d1:List Value),kv=.int .i64 k∧a≤k∧k+1≤i∧Mv (rotI a (a+1) (k+1)) d d1∧SR w0 B t sp d1 wr) (fun kv _=>i-(intOf kv).toNat)
    case atStart=>exact ⟨a,d,rfl,Nat.le_refl _,o_,Mv.refl d (fun q=>q0hf a (a+1) q),HSr.out⟩
    case round =>
     obtain ⟨k,d1,rfl,hak,hki,hmv,hs⟩:=hrel;have HMv:=hj_ hmv;have HSr:=hj_ hs;have hl1:d1.length=len:=hmv.len.trans hld;clear hmv hs
     by_cases hlt2:k<i-1
     ·have hz2:(k:Int)<((i-1:Nat):Int):=by omega
      have q1:(0:Int)≤(k:Int)+1:=o_
      have q2:(k:Int)+1<(len:Int):=o_
      have q3:((k:Int)+1).toNat=k+1:=o_
      have q4:IntKind.i64.wrap ((k:Int)+1)=(k:Int)+1:=IntWalk.i64_in _ o_
      have q5:(k:Int)<(len:Int):=o_
      obtain ⟨x,hx⟩:∃ x,d1[k]? = some x:=⟨_,List.getElem?_eq_getElem o_⟩
      obtain ⟨y,hy⟩:∃ y,d1[k+1]? = some y:=⟨_,List.getElem?_eq_getElem o_⟩
      obtain ⟨xA,xn,xc,rfl⟩:=H1.out x (HP0.out.subset (HMv.out.perm.subset (List.mem_of_getElem? hx)));obtain ⟨yA,yn,yc,rfl⟩:=H1.out y (HP0.out.subset (HMv.out.perm.subset (List.mem_of_getElem? hy)));have HMv2:=hj_ (rot_up hak HMv.out hx hy);have l1:=HSr.out.cell hx;have l2:=HSr.out.cell hy;have g1:=HSr.out.fr (k);have g2:=HSr.out.fr (k+1);have l3:(wr.setCell ⟨B,k,none⟩ (.slice yA yn yc)).cell? ⟨B,k+1,none⟩=some (.slice yA yn yc):=(World.cell?_setCell_other wr ⟨B,k,none⟩ ⟨B,k+1,none⟩ (.slice yA yn yc) (by intro e;injection e with _ e;omega)).trans l2
      have HS3:=hj_ (HSr.out.swap (i:=k) (j:=k+1) o_ o_ (.slice xA xn xc) (.slice yA yn yc)).drew
      clear hx hy;go_wp2_with fail
      go_big_region_o
      clear l1 l2 l3 g1 g2;generalize ((wr.setCell ⟨B,k,none⟩ (Value.slice yA yn yc)).setCell ⟨B,k+1,none⟩ (Value.slice xA xn xc)).drew=w3 at HS3 ⊢;go_wp2_with fail
      go_roundw
      case rel=>exact ⟨k+1,_,by go_num,o_,o_,HMv2.out,HS3.out⟩
      case measure=>simp [intOf];omega
     ·have hik:i=k+1:=by omega
      have hz2:¬ (k:Int)<((i-1:Nat):Int):=o_
      go_wp2_with fail;clear hz2 k3 hltz hai hij;subst hik
      (try simp only [Exit.inBlock,Exit.then]);refine bodyPost_ret (results_none rfl _ _ _) rfl ?_
      exact ⟨rfl,d1,rot_pi HMv.out lr_ o_ o_ hjb,ins_up o_ hjb (List.getElem?_eq_getElem o_) HSb.out (fun q y h1 h2 hy=>HA.out _ _ (P1.out q y _ h1 h2 hy (List.getElem?_eq_getElem o_))) (fun q y h1 h2 hy=>P2.out q y _ h1 h2 hy (List.getElem?_eq_getElem o_)) HMv.out,HSr.out⟩
 by_cases e2:b=m+1
 ·subst e2
  have k0:IntKind.i64.wrap ((m:Int)-(a:Int))=((m-a:Nat):Int):=by rw [show ((m-a:Nat):Int)=(m:Int)-(a:Int) by omega];exact IntWalk.i64_in _ o_
  obtain ⟨ma,hma⟩:=ex_ (m-a);rw [← hma] at k0;have k9:((ma:Int) == 1)=false:=beq_eq_false_iff_ne.2 o_
  clear hma;have k1:IntKind.i64.wrap (((m+1:Nat):Int)-(m:Int))=1:=by rw [show ((m+1:Nat):Int)-(m:Int)=1 by omega];rfl
  have k2:(m:Int)<(len:Int):=o_
  go_enter func111,ntmps111
  rw [show ((m+1:Nat):Int)=(m:Int)+1 by omega] at *
  go_wp2_with fail
  go_loopw [14,15] (fun iv jv wr=>∃ (i j:Nat),iv=.int .i64 i∧jv=.int .i64 j∧a≤i∧i≤j∧j≤m∧Hid (∀ (q:Nat) y z,a≤q→q<i→d[q]? = some y→d[m]? = some z→0≤cf z y)∧Hid (∀ (q:Nat) y z,j≤q→q<m→d[q]? = some y→d[m]? = some z→cf z y<0)∧SR w0 B t sp d wr) (fun iv jv _=>(intOf jv-intOf iv).toNat)
  case atStart=>exact ⟨a,m,rfl,rfl,Nat.le_refl _,o_,Nat.le_refl _,hj_ (fun q y z h1 h2=>o_),hj_ (fun q y z h1 h2=>o_),HS0.out⟩
  case round =>
   obtain ⟨i,j,rfl,rfl,hai,hij,hjb,P1,P2,hs⟩:=hrel;have HSr:=hj_ hs;clear hs
   by_cases hlt:i<j
   ·have hltz:(i:Int)<(j:Int):=by omega
    have q1:(0:Int)≤((i:Int)+(j:Int)) / 2:=o_
    have q2:((i:Int)+(j:Int)) / 2<(len:Int):=o_
    have q3:(((i:Int)+(j:Int)) / 2).toNat=(i+j) / 2:=o_
    have q4:IntKind.i64.wrap (((i:Int)+(j:Int)) / 2)=((i:Int)+(j:Int)) / 2:=IntWalk.i64_in _ o_
    obtain ⟨x,hx⟩:∃ x,d[m]? = some x:=⟨_,List.getElem?_eq_getElem o_⟩
    obtain ⟨y,hy⟩:∃ y,d[(i+j) / 2]? = some y:=⟨_,List.getElem?_eq_getElem o_⟩
    have HCxy:=hj_ (fun w' (h:SR w0 B t sp d w')=>HC.out w' h.gr x (HP0.out.subset (List.mem_of_getElem? hx)) y (HP0.out.subset (List.mem_of_getElem? hy)))
    have HSd:=hj_ (HSr.out.drewN 1);have l1:=HSd.out.cell hx;have l2:=HSd.out.cell hy;go_wp2_with fail;refine wp_region_held_drew (S:=fun w'=>w'.cell? ⟨B,m,none⟩=some x∧w'.cell? ⟨B,(i+j) / 2,none⟩=some y) k_ ⟨l1,l2⟩ (fun hHeld=>?_)
    refine tq 0 ?_;refine tq 1 ?_;refine tq 2 ?_;refine tq 3 ?_;refine tq 4 ?_;refine tq 5 ?_;refine tq 6 ?_;refine tq 7 ?_;refine tq 8 ?_;refine tr 9 fun K hK=>?_
    go_simp
    go_at_fn g;refine (HCxy.out _ HSd.out).mono ?_;rintro e w2 ⟨rfl,hb⟩;have hS2:=HSd.out.below hb;have HS2:=hj_ hS2;have l1:=hS2.cell hx;have l2:=hS2.cell hy;clear hS2 hb
    go_wp2_with fail;refine hK.out _ _ ⟨l1,l2⟩ (fun hHeld=>?_)
    clear hK K;refine tq 10 ?_;refine tq 11 ?_;refine wpAnyH_done k_ ?_ _
    by_cases hc:cf x y<0
    ·rw [decide_eq_true hc]
     have R1:=hj_ (fun (q:Nat) u z (h1:(i+j) / 2≤q) (h2:q<m) (hq:d[q]? = some u) (hz:d[m]? = some z)=>show cf z u<0 from by
      rw [hx] at hz;injection hz with hz;subst hz
      exact seg_dl HT.out HSa.out hy hq hc o_ h1 h2)
     clear l1 l2 hc hx hy;go_wp2_with fail
     go_roundw
     case rel=>exact ⟨i,(i+j) / 2,rfl,by rw [show ((i:Int)+(j:Int)) / 2=(((i+j) / 2:Nat):Int) by omega],hai,o_,o_,P1,R1,HS2.out⟩
     case measure=>simp [intOf];omega
    ·rw [decide_eq_false hc]
     have R1:=hj_ (fun (q:Nat) u z (h1:a≤q) (h2:q<(i+j) / 2+1) (hq:d[q]? = some u) (hz:d[m]? = some z)=>show 0≤cf z u from by
      rw [hx] at hz;injection hz with hz;subst hz
      exact seg_dg HT.out HSa.out hy hq (Int.not_lt.1 hc) h1 o_ o_)
     clear l1 l2 hc hx hy;go_wp2_with fail
     go_roundw
     case rel=>exact ⟨(i+j) / 2+1,j,by rw [show ((i:Int)+(j:Int)) / 2+1=(((i+j) / 2+1:Nat):Int) by omega],rfl,o_,o_,hjb,R1,P2,HS2.out⟩
     case measure=>simp [intOf];omega
   ·obtain rfl:i=j:=by omega
    have hltz:¬ (i:Int)<(i:Int):=o_
    rename World=>V1
    go_wp2_with fail
    go_loopw [17] (fun kv wr=>∃ (k:Nat) (d1:List Value),kv=.int .i64 k∧i≤k∧k≤m∧Mv (rotI k m (m+1)) d d1∧SR w0 B t sp d1 wr) (fun kv _=>(intOf kv).toNat-i)
    case atStart=>exact ⟨m,d,rfl,o_,Nat.le_refl _,Mv.refl d (fun q=>q0he m (m+1) q),HSr.out⟩
    case round =>
     obtain ⟨k,d1,rfl,hik,hkm,hmv,hs⟩:=hrel;have HMv:=hj_ hmv;have HSr:=hj_ hs;have hl1:d1.length=len:=hmv.len.trans hld;clear hmv hs
     by_cases hlt2:i<k
     ·have hz2:(i:Int)<(k:Int):=by omega
      have q1:(0:Int)≤((k-1:Nat):Int):=o_
      have q2:((k-1:Nat):Int)<(len:Int):=o_
      have q4:IntKind.i64.wrap ((k:Int)-1)=((k-1:Nat):Int):=by rw [show ((k-1:Nat):Int)=(k:Int)-1 by omega];exact IntWalk.i64_in _ o_
      have q5:(k:Int)<(len:Int):=o_
      obtain ⟨x,hx⟩:∃ x,d1[k]? = some x:=⟨_,List.getElem?_eq_getElem o_⟩
      obtain ⟨y,hy⟩:∃ y,d1[k-1]? = some y:=⟨_,List.getElem?_eq_getElem o_⟩
      obtain ⟨xA,xn,xc,rfl⟩:=H1.out x (HP0.out.subset (HMv.out.perm.subset (List.mem_of_getElem? hx)));obtain ⟨yA,yn,yc,rfl⟩:=H1.out y (HP0.out.subset (HMv.out.perm.subset (List.mem_of_getElem? hy)));have HMv2:=hj_ (q0hg o_ hkm HMv.out hx hy)
      have l1:=HSr.out.cell hx;have l2:=HSr.out.cell hy;have g1:=HSr.out.fr (k);have g2:=HSr.out.fr (k-1);have l3:(wr.setCell ⟨B,k,none⟩ (.slice yA yn yc)).cell? ⟨B,k-1,none⟩=some (.slice yA yn yc):=(World.cell?_setCell_other wr ⟨B,k,none⟩ ⟨B,k-1,none⟩ (.slice yA yn yc) (by intro e;injection e with _ e;omega)).trans l2
      have HS3:=hj_ (HSr.out.swap (i:=k) (j:=k-1) o_ o_ (.slice xA xn xc) (.slice yA yn yc)).drew
      clear hx hy;go_wp2_with fail
      go_big_region_o
      clear l1 l2 l3 g1 g2;generalize ((wr.setCell ⟨B,k,none⟩ (Value.slice yA yn yc)).setCell ⟨B,k-1,none⟩ (Value.slice xA xn xc)).drew=w3 at HS3 ⊢;go_wp2_with fail
      go_roundw
      case rel=>exact ⟨k-1,_,rfl,o_,o_,HMv2.out,HS3.out⟩
      case measure=>simp [intOf];omega
     ·have hik2:i=k:=by omega
      have hz2:¬ (i:Int)<(k:Int):=o_
      go_wp2_with fail;clear hz2 hltz hij;subst hik2
      (try simp only [Exit.inBlock,Exit.then]);refine bodyPost_ret (results_none rfl _ _ _) rfl ?_
      exact ⟨rfl,d1,rot_pi HMv.out hai hkm o_ lr_,q0fh hai hkm (List.getElem?_eq_getElem o_) HSa.out (fun q y h1 h2 hy=>P1.out q y _ h1 h2 hy (List.getElem?_eq_getElem o_)) (fun q y h1 h2 hy=>HA.out _ _ (P2.out q y _ h1 h2 hy (List.getElem?_eq_getElem o_))) HMv.out,HSr.out⟩
 obtain ⟨ma,hma⟩:=ex_ (m-a);obtain ⟨bm,hbm⟩:=ex_ (b-m);obtain ⟨mid,hmid⟩:=ex_ ((a+b) / 2);obtain ⟨nn,hnn⟩:=ex_ (mid+m);obtain ⟨pp,hpp⟩:=ex_ (nn-1);have k0:IntKind.i64.wrap ((m:Int)-(a:Int))=(ma:Int):=by rw [show (m:Int)-(a:Int)=(ma:Int) by omega];exact IntWalk.i64_in _ o_
 have k1:IntKind.i64.wrap ((b:Int)-(m:Int))=(bm:Int):=by rw [show (b:Int)-(m:Int)=(bm:Int) by omega];exact IntWalk.i64_in _ o_
 have k9:((ma:Int) == 1)=false:=beq_eq_false_iff_ne.2 o_
 have k10:((bm:Int) == 1)=false:=beq_eq_false_iff_ne.2 o_
 have k11:((a:Int)+(b:Int)) / 2=(mid:Int):=o_
 have k11b:IntKind.i64.wrap (mid:Int)=(mid:Int):=IntWalk.i64_in _ o_
 have k12:IntKind.i64.wrap ((mid:Int)+(m:Int))=(nn:Int):=by rw [show (mid:Int)+(m:Int)=(nn:Int) by omega];exact IntWalk.i64_in _ o_
 have k13:IntKind.i64.wrap ((nn:Int)-1)=(pp:Int):=by rw [show (nn:Int)-1=(pp:Int) by omega];exact IntWalk.i64_in _ o_
 by_cases hmm:mid<m
 ·obtain ⟨s0,hs0⟩:=ex_ (nn-b)
  obtain ⟨r0,hr0⟩:=ex_ mid;have k14:IntKind.i64.wrap ((nn:Int)-(b:Int))=(s0:Int):=by rw [show (nn:Int)-(b:Int)=(s0:Int) by omega];exact IntWalk.i64_in _ o_
  have k15:(mid:Int)<(m:Int):=o_
  have HF:=hj_ (show mid=(a+b) / 2∧nn=mid+m∧pp=nn-1∧s0=nn-b∧r0=mid∧mid<m from ⟨hmid,hnn,hpp,hs0,hr0,hmm⟩)
  have k16:s0≤r0∧r0≤m∧r0≤mid:=o_
  clear hma hbm hnn hpp hs0 hr0 hmid hmm
  go_enter func111,ntmps111
  go_wp2_with fail
  go_loopw [20,21] (fun iv jv wr=>∃ (i j:Nat),iv=.int .i64 i∧jv=.int .i64 j∧s0≤i∧i≤j∧j≤r0∧Hid (i=s0∨∃ x y,d[i-1]? = some x∧d[nn-i]? = some y∧0≤cf y x)∧Hid (j=r0∨∃ x y,d[nn-1-j]? = some x∧d[j]? = some y∧cf x y<0)∧SR w0 B t sp d wr) (fun iv jv _=>(intOf jv-intOf iv).toNat)
  case atStart=>exact ⟨s0,r0,rfl,by rw [HF.out.2.2.2.2.1],Nat.le_refl _,k16.1,Nat.le_refl _,hj_ (Or.inl rfl),hj_ (Or.inl rfl),HS0.out⟩
  case round =>
   obtain ⟨i,j,rfl,rfl,hai,hij,hjb,P1,P2,hs⟩:=hrel;have HSr:=hj_ hs;clear hs
   by_cases hlt:i<j
   ·have hltz:(i:Int)<(j:Int):=by omega
    have hF:=HF.out;obtain ⟨ch,hch⟩:=ex_ ((i+j) / 2);obtain ⟨pc,hpc⟩:=ex_ (nn-1-ch);have q0:((i:Int)+(j:Int)) / 2=(ch:Int):=o_
    have q1:(0:Int)≤(ch:Int):=o_
    have q2:(ch:Int)<(len:Int):=o_
    have q3:IntKind.i64.wrap (ch:Int)=(ch:Int):=IntWalk.i64_in _ o_
    have q4:IntKind.i64.wrap ((pp:Int)-(ch:Int))=(pc:Int):=by rw [show (pp:Int)-(ch:Int)=(pc:Int) by omega];exact IntWalk.i64_in _ o_
    have q5:(0:Int)≤(pc:Int):=o_
    have q6:(pc:Int)<(len:Int):=o_
    have HCh:=hj_ (show ch=(i+j) / 2∧pc=nn-1-ch∧nn-(ch+1)=pc∧i≤ch∧ch<j from ⟨hch,hpc,o_,o_,o_⟩)
    obtain ⟨x,hx⟩:∃ x,d[pc]? = some x:=⟨_,List.getElem?_eq_getElem o_⟩
    obtain ⟨y,hy⟩:∃ y,d[ch]? = some y:=⟨_,List.getElem?_eq_getElem o_⟩
    have HCxy:=hj_ (fun w' (h:SR w0 B t sp d w')=>HC.out w' h.gr x (HP0.out.subset (List.mem_of_getElem? hx)) y (HP0.out.subset (List.mem_of_getElem? hy)))
    have HSd:=hj_ (HSr.out.drewN 1);have l1:=HSd.out.cell hx;have l2:=HSd.out.cell hy;clear hF hch hpc;go_wp2_with fail;refine wp_region_held_drew (S:=fun w'=>w'.cell? ⟨B,pc,none⟩=some x∧w'.cell? ⟨B,ch,none⟩=some y) k_ ⟨l1,l2⟩ (fun hHeld=>?_)
    refine tq 0 ?_;refine tq 1 ?_;refine tq 2 ?_;refine tq 3 ?_;refine tq 4 ?_;refine tq 5 ?_;refine tq 6 ?_;refine tq 7 ?_;refine tq 8 ?_;refine tq 9 ?_;refine tq 10 ?_;refine tr 11 fun K hK=>?_
    go_simp
    go_at_fn g;refine (HCxy.out _ HSd.out).mono ?_;rintro e w2 ⟨rfl,hb⟩;have hS2:=HSd.out.below hb;have HS2:=hj_ hS2;have l1:=hS2.cell hx;have l2:=hS2.cell hy;clear hS2 hb
    go_wp2_with fail;refine hK.out _ _ ⟨l1,l2⟩ (fun hHeld=>?_)
    clear hK K;refine tq 12 ?_;refine tq 13 ?_;refine wpAnyH_done k_ ?_ _
    by_cases hc:cf x y<0
    ·rw [decide_eq_true hc]
     have R1:=hj_ (show ch=r0∨∃ x y,d[nn-1-ch]? = some x∧d[ch]? = some y∧cf x y<0 from Or.inr ⟨x,y,by rw [← HCh.out.2.1];exact hx,hy,hc⟩)
     clear l1 l2 hc hx hy;go_wp2_with fail
     go_roundw
     case rel=>exact ⟨i,ch,rfl,rfl,hai,HCh.out.2.2.2.1,by have:=HCh.out;omega,P1,R1,HS2.out⟩
     case measure=>have:=HCh.out;simp [intOf];omega
    ·rw [decide_eq_false hc]
     have R1:=hj_ (show ch+1=s0∨∃ x y,d[ch+1-1]? = some x∧d[nn-(ch+1)]? = some y∧0≤cf y x from Or.inr ⟨y,x,hy,by rw [HCh.out.2.2.1];exact hx,Int.not_lt.1 hc⟩)
     clear l1 l2 hc hx hy;go_wp2_with fail
     go_roundw
     case rel=>exact ⟨ch+1,j,by go_num,rfl,by have:=HCh.out;omega,by have:=HCh.out;omega,hjb,R1,P2,HS2.out⟩
     case measure=>have:=HCh.out;simp [intOf];omega
   ·obtain rfl:i=j:=by omega
    obtain ⟨s,rfl⟩:=ex_ i;have hF:=HF.out;have hltz:¬ (s:Int)<(s:Int):=o_
    obtain ⟨e,he⟩:=ex_ (nn-s);have k17:IntKind.i64.wrap ((nn:Int)-(s:Int))=(e:Int):=by rw [show (nn:Int)-(s:Int)=(e:Int) by omega];exact IntWalk.i64_in _ o_
    have HFe:=hj_ (show mid=s+(e-m)∧a≤s∧s≤m∧m≤e∧e≤b∧a<mid∧mid<b∧b≤len∧s≤mid∧mid≤e from ⟨o_,o_,o_,o_,o_,o_,o_,hb,o_,o_⟩)
    have C1:=hj_ (show s=a∨e=b∨∃ x y,d[s-1]? = some x∧d[e]? = some y∧0≤cf y x from by
     rcases P1.out with h | h
     ·exact Or.inr (Or.inl o_)
     ·exact Or.inr (Or.inr (by rw [he];exact h)))
    have C2:=hj_ (show s=m∨e=m∨∃ x y,d[e-1]? = some x∧d[s]? = some y∧0≤cf y x from by
     rcases P2.out with h | ⟨x,y,h1,h2,h3⟩
     ·exact Or.inr (Or.inl o_)
     ·exact Or.inr (Or.inr ⟨x,y,by rw [show e-1=nn-1-s by omega];exact h1,h2,HA.out _ _ h3⟩))
    have HRot:=hj_ (fun (s m e:Nat) (w':World) (hs:SR w0 B t sp d w') h1 h2 (h3:e≤len)=>(show Calls prog 159 #[.slice (some ⟨B,0,none⟩) len c,.int .i64 s,.int .i64 m,.int .i64 e,.func (.func g) #[] cb] w' fun e' w''=>e' = .returned (.tuple #[])∧∃ d',Mv (rotI s m e) d d'∧SR w0 B t sp d' w'' from by
     rw [← hld];exact q0iq _ B c t sp w0 s m e d w' hs h1 h2 o_ o_ (fun x hx=>H1.out x (HP0.out.subset hx))))
    clear hF he;have bM:s<m:=by have:=HF.out;omega
    by_cases bD:s<mid
    ·by_cases bA:a<s
     ·by_cases bE:e<b
      ·have zM:(s:Int)<(m:Int):=by omega
       have zD1:(m:Int)<(e:Int):=by have:=HFe.out;omega
       have zA:(a:Int)<(s:Int):=o_
       have zD2:(s:Int)<(mid:Int):=o_
       have zM2:(mid:Int)<(e:Int):=by have:=HFe.out;omega
       have zE:(e:Int)<(b:Int):=o_
       go_wp2_with fail;refine (HRot.out s m e _ HSr.out o_ (oh_ HFe.out) (oh_ HFe.out)).mono ?_
       rintro e9 w1 ⟨rfl,d1,hmv,hs1⟩;have HS1:=hj_ hs1;clear hs1;have HQ:=hj_ (lf1 HT.out hmv HFe.out HSa.out HSb.out C1.out C2.out);clear hmv;go_wp2_with fail;refine (HRec.out a s mid d1 _ (by have:=HN.out;have:=HFe.out;omega) HS1.out (HQ.out.1.perm.trans HP0.out) o_ o_ (oh_ HFe.out) HQ.out.2.1 HQ.out.2.2.1).mono ?_
       rintro e9 w2 ⟨rfl,d2,hp2,hl2,hs2⟩;have HP2:=hj_ hp2;have HL2:=hj_ hl2;have HS2:=hj_ hs2;clear hp2 hl2 hs2;go_wp2_with fail;refine (HRec.out mid e b d2 _ (by have:=HN.out;have:=HFe.out;omega) HS2.out ((HP2.out.perm.trans HQ.out.1.perm).trans HP0.out) (oh_ HFe.out) o_ o_ (lf2 HFe.out HQ.out HP2.out).1 (lf2 HFe.out HQ.out HP2.out).2).mono ?_
       rintro e9 w3 ⟨rfl,d3,hp3,hl3,hs3⟩;have HP3:=hj_ hp3;have HL3:=hj_ hl3;have HS3:=hj_ hs3;clear hp3 hl3 hs3;go_wp2_with fail
       go_end0
       obtain ⟨u1,u2⟩:=lf3 HFe.out HQ.out HP2.out HP3.out HL2.out HL3.out;exact ⟨rfl,d3,u1,u2,HS3.out⟩
      ·have zM:(s:Int)<(m:Int):=by omega
       have zD1:(m:Int)<(e:Int):=by have:=HFe.out;omega
       have zA:(a:Int)<(s:Int):=o_
       have zD2:(s:Int)<(mid:Int):=o_
       have zM2:(mid:Int)<(e:Int):=by have:=HFe.out;omega
       have zE:¬ (e:Int)<(b:Int):=o_
       go_wp2_with fail;refine (HRot.out s m e _ HSr.out o_ (oh_ HFe.out) (oh_ HFe.out)).mono ?_
       rintro e9 w1 ⟨rfl,d1,hmv,hs1⟩;have HS1:=hj_ hs1;clear hs1;have HQ:=hj_ (lf1 HT.out hmv HFe.out HSa.out HSb.out C1.out C2.out);clear hmv;go_wp2_with fail;refine (HRec.out a s mid d1 _ (by have:=HN.out;have:=HFe.out;omega) HS1.out (HQ.out.1.perm.trans HP0.out) o_ o_ (oh_ HFe.out) HQ.out.2.1 HQ.out.2.2.1).mono ?_
       rintro e9 w2 ⟨rfl,d2,hp2,hl2,hs2⟩;have HP2:=hj_ hp2;have HL2:=hj_ hl2;have HS2:=hj_ hs2;clear hp2 hl2 hs2;have HL3:=hj_ (show SegS cf mid b d2 by have h:=(lf2 HFe.out HQ.out HP2.out).1;rw [show b=e by have:=HFe.out;omega];exact h)
       go_wp2_with fail
       go_end0
       obtain ⟨u1,u2⟩:=lf3 HFe.out HQ.out HP2.out (PI.refl mid b d2) HL2.out HL3.out;exact ⟨rfl,d2,u1,u2,HS2.out⟩
     ·by_cases bE:e<b
      ·have zM:(s:Int)<(m:Int):=by omega
       have zD1:(m:Int)<(e:Int):=by have:=HFe.out;omega
       have zA:¬ (a:Int)<(s:Int):=o_
       have zM2:(mid:Int)<(e:Int):=by have:=HFe.out;omega
       have zE:(e:Int)<(b:Int):=o_
       go_wp2_with fail;refine (HRot.out s m e _ HSr.out o_ (oh_ HFe.out) (oh_ HFe.out)).mono ?_
       rintro e9 w1 ⟨rfl,d1,hmv,hs1⟩;have HS1:=hj_ hs1;clear hs1;have HQ:=hj_ (lf1 HT.out hmv HFe.out HSa.out HSb.out C1.out C2.out);clear hmv;have HL2:=hj_ (show SegS cf a mid d1 by rw [show a=s by have:=HFe.out;omega];exact HQ.out.2.2.1)
       go_wp2_with fail;refine (HRec.out mid e b d1 _ (by have:=HN.out;have:=HFe.out;omega) HS1.out (((PI.refl a mid d1).perm.trans HQ.out.1.perm).trans HP0.out) (oh_ HFe.out) o_ o_ (lf2 HFe.out HQ.out (PI.refl a mid d1)).1 (lf2 HFe.out HQ.out (PI.refl a mid d1)).2).mono ?_
       rintro e9 w3 ⟨rfl,d3,hp3,hl3,hs3⟩;have HP3:=hj_ hp3;have HL3:=hj_ hl3;have HS3:=hj_ hs3;clear hp3 hl3 hs3;go_wp2_with fail
       go_end0
       obtain ⟨u1,u2⟩:=lf3 HFe.out HQ.out (PI.refl a mid d1) HP3.out HL2.out HL3.out;exact ⟨rfl,d3,u1,u2,HS3.out⟩
      ·have zM:(s:Int)<(m:Int):=by omega
       have zD1:(m:Int)<(e:Int):=by have:=HFe.out;omega
       have zA:¬ (a:Int)<(s:Int):=o_
       have zM2:(mid:Int)<(e:Int):=by have:=HFe.out;omega
       have zE:¬ (e:Int)<(b:Int):=o_
       go_wp2_with fail;refine (HRot.out s m e _ HSr.out o_ (oh_ HFe.out) (oh_ HFe.out)).mono ?_
       rintro e9 w1 ⟨rfl,d1,hmv,hs1⟩;have HS1:=hj_ hs1;clear hs1;have HQ:=hj_ (lf1 HT.out hmv HFe.out HSa.out HSb.out C1.out C2.out);clear hmv;have HL2:=hj_ (show SegS cf a mid d1 by rw [show a=s by have:=HFe.out;omega];exact HQ.out.2.2.1)
       have HL3:=hj_ (show SegS cf mid b d1 by have h:=(lf2 HFe.out HQ.out (PI.refl a mid d1)).1;rw [show b=e by have:=HFe.out;omega];exact h)
       go_wp2_with fail
       go_end0
       obtain ⟨u1,u2⟩:=lf3 HFe.out HQ.out (PI.refl a mid d1) (PI.refl mid b d1) HL2.out HL3.out;exact ⟨rfl,d1,u1,u2,HS1.out⟩
    ·by_cases bA:a<s
     ·by_cases bE:e<b
      ·have zM:(s:Int)<(m:Int):=by omega
       have zD1:¬ (m:Int)<(e:Int):=by have:=HFe.out;omega
       have zA:(a:Int)<(s:Int):=o_
       have zD2:¬ (s:Int)<(mid:Int):=o_
       have zM2:(mid:Int)<(e:Int):=by have:=HFe.out;omega
       have zE:(e:Int)<(b:Int):=o_
       go_wp2_with fail;have hmv:Mv (rotI s m e) d d:=Mv.refl d (fun q=>by have h:=HFe.out;rw [show e=m by omega];exact q0hf s m q)
       have HQ:=hj_ (lf1 HT.out hmv HFe.out HSa.out HSb.out C1.out C2.out);clear hmv;have HL2:=hj_ (show SegS cf a mid d by rw [show mid=s by omega];exact HQ.out.2.1)
       refine (HRec.out mid e b d _ (by have:=HN.out;have:=HFe.out;omega) HSr.out (((PI.refl a mid d).perm.trans HQ.out.1.perm).trans HP0.out) (oh_ HFe.out) o_ o_ (lf2 HFe.out HQ.out (PI.refl a mid d)).1 (lf2 HFe.out HQ.out (PI.refl a mid d)).2).mono ?_
       rintro e9 w3 ⟨rfl,d3,hp3,hl3,hs3⟩;have HP3:=hj_ hp3;have HL3:=hj_ hl3;have HS3:=hj_ hs3;clear hp3 hl3 hs3;go_wp2_with fail
       go_end0
       obtain ⟨u1,u2⟩:=lf3 HFe.out HQ.out (PI.refl a mid d) HP3.out HL2.out HL3.out;exact ⟨rfl,d3,u1,u2,HS3.out⟩
      ·have zM:(s:Int)<(m:Int):=by omega
       have zD1:¬ (m:Int)<(e:Int):=by have:=HFe.out;omega
       have zA:(a:Int)<(s:Int):=o_
       have zD2:¬ (s:Int)<(mid:Int):=o_
       have zM2:(mid:Int)<(e:Int):=by have:=HFe.out;omega
       have zE:¬ (e:Int)<(b:Int):=o_
       go_wp2_with fail;have hmv:Mv (rotI s m e) d d:=Mv.refl d (fun q=>by have h:=HFe.out;rw [show e=m by omega];exact q0hf s m q)
       have HQ:=hj_ (lf1 HT.out hmv HFe.out HSa.out HSb.out C1.out C2.out);clear hmv;have HL2:=hj_ (show SegS cf a mid d by rw [show mid=s by omega];exact HQ.out.2.1)
       have HL3:=hj_ (show SegS cf mid b d by have h:=(lf2 HFe.out HQ.out (PI.refl a mid d)).1;rw [show b=e by have:=HFe.out;omega];exact h)
       go_end0
       obtain ⟨u1,u2⟩:=lf3 HFe.out HQ.out (PI.refl a mid d) (PI.refl mid b d) HL2.out HL3.out;exact ⟨rfl,d,u1,u2,HSr.out⟩
     ·by_cases bE:e<b
      ·have zM:(s:Int)<(m:Int):=by omega
       have zD1:¬ (m:Int)<(e:Int):=by have:=HFe.out;omega
       have zA:¬ (a:Int)<(s:Int):=o_
       have zM2:(mid:Int)<(e:Int):=by have:=HFe.out;omega
       have zE:(e:Int)<(b:Int):=o_
       go_wp2_with fail;have hmv:Mv (rotI s m e) d d:=Mv.refl d (fun q=>by have h:=HFe.out;rw [show e=m by omega];exact q0hf s m q)
       have HQ:=hj_ (lf1 HT.out hmv HFe.out HSa.out HSb.out C1.out C2.out);clear hmv;have HL2:=hj_ (show SegS cf a mid d by rw [show a=s by have:=HFe.out;omega];exact HQ.out.2.2.1)
       refine (HRec.out mid e b d _ (by have:=HN.out;have:=HFe.out;omega) HSr.out (((PI.refl a mid d).perm.trans HQ.out.1.perm).trans HP0.out) (oh_ HFe.out) o_ o_ (lf2 HFe.out HQ.out (PI.refl a mid d)).1 (lf2 HFe.out HQ.out (PI.refl a mid d)).2).mono ?_
       rintro e9 w3 ⟨rfl,d3,hp3,hl3,hs3⟩;have HP3:=hj_ hp3;have HL3:=hj_ hl3;have HS3:=hj_ hs3;clear hp3 hl3 hs3;go_wp2_with fail
       go_end0
       obtain ⟨u1,u2⟩:=lf3 HFe.out HQ.out (PI.refl a mid d) HP3.out HL2.out HL3.out;exact ⟨rfl,d3,u1,u2,HS3.out⟩
      ·have zM:(s:Int)<(m:Int):=by omega
       have zD1:¬ (m:Int)<(e:Int):=by have:=HFe.out;omega
       have zA:¬ (a:Int)<(s:Int):=o_
       have zM2:(mid:Int)<(e:Int):=by have:=HFe.out;omega
       have zE:¬ (e:Int)<(b:Int):=o_
       go_wp2_with fail;have hmv:Mv (rotI s m e) d d:=Mv.refl d (fun q=>by have h:=HFe.out;rw [show e=m by omega];exact q0hf s m q)
       have HQ:=hj_ (lf1 HT.out hmv HFe.out HSa.out HSb.out C1.out C2.out);clear hmv;have HL2:=hj_ (show SegS cf a mid d by rw [show a=s by have:=HFe.out;omega];exact HQ.out.2.2.1)
       have HL3:=hj_ (show SegS cf mid b d by have h:=(lf2 HFe.out HQ.out (PI.refl a mid d)).1;rw [show b=e by have:=HFe.out;omega];exact h)
       go_end0
       obtain ⟨u1,u2⟩:=lf3 HFe.out HQ.out (PI.refl a mid d) (PI.refl mid b d) HL2.out HL3.out;exact ⟨rfl,d,u1,u2,HSr.out⟩
 ·obtain ⟨s0,hs0⟩:=ex_ a
  obtain ⟨r0,hr0⟩:=ex_ m;have k15:¬ (mid:Int)<(m:Int):=o_
  have HF:=hj_ (show mid=(a+b) / 2∧nn=mid+m∧pp=nn-1∧s0=a∧r0=m∧¬ mid<m from ⟨hmid,hnn,hpp,hs0,hr0,hmm⟩)
  have k16:s0≤r0∧r0≤m∧r0≤mid:=o_
  clear hma hbm hnn hpp hs0 hr0 hmid hmm
  go_enter func111,ntmps111
  go_wp2_with fail
  go_loopw [20,21] (fun iv jv wr=>∃ (i j:Nat),iv=.int .i64 i∧jv=.int .i64 j∧s0≤i∧i≤j∧j≤r0∧Hid (i=s0∨∃ x y,d[i-1]? = some x∧d[nn-i]? = some y∧0≤cf y x)∧Hid (j=r0∨∃ x y,d[nn-1-j]? = some x∧d[j]? = some y∧cf x y<0)∧SR w0 B t sp d wr) (fun iv jv _=>(intOf jv-intOf iv).toNat)
  case atStart=>exact ⟨s0,r0,by rw [HF.out.2.2.2.1],by rw [HF.out.2.2.2.2.1],Nat.le_refl _,k16.1,Nat.le_refl _,hj_ (Or.inl rfl),hj_ (Or.inl rfl),HS0.out⟩
  case round =>
   obtain ⟨i,j,rfl,rfl,hai,hij,hjb,P1,P2,hs⟩:=hrel;have HSr:=hj_ hs;clear hs
   by_cases hlt:i<j
   ·have hltz:(i:Int)<(j:Int):=by omega
    have hF:=HF.out;obtain ⟨ch,hch⟩:=ex_ ((i+j) / 2);obtain ⟨pc,hpc⟩:=ex_ (nn-1-ch);have q0:((i:Int)+(j:Int)) / 2=(ch:Int):=o_
    have q1:(0:Int)≤(ch:Int):=o_
    have q2:(ch:Int)<(len:Int):=o_
    have q3:IntKind.i64.wrap (ch:Int)=(ch:Int):=IntWalk.i64_in _ o_
    have q4:IntKind.i64.wrap ((pp:Int)-(ch:Int))=(pc:Int):=by rw [show (pp:Int)-(ch:Int)=(pc:Int) by omega];exact IntWalk.i64_in _ o_
    have q5:(0:Int)≤(pc:Int):=o_
    have q6:(pc:Int)<(len:Int):=o_
    have HCh:=hj_ (show ch=(i+j) / 2∧pc=nn-1-ch∧nn-(ch+1)=pc∧i≤ch∧ch<j from ⟨hch,hpc,o_,o_,o_⟩)
    obtain ⟨x,hx⟩:∃ x,d[pc]? = some x:=⟨_,List.getElem?_eq_getElem o_⟩
    obtain ⟨y,hy⟩:∃ y,d[ch]? = some y:=⟨_,List.getElem?_eq_getElem o_⟩
    have HCxy:=hj_ (fun w' (h:SR w0 B t sp d w')=>HC.out w' h.gr x (HP0.out.subset (List.mem_of_getElem? hx)) y (HP0.out.subset (List.mem_of_getElem? hy)))
    have HSd:=hj_ (HSr.out.drewN 1);have l1:=HSd.out.cell hx;have l2:=HSd.out.cell hy;clear hF hch hpc;go_wp2_with fail;refine wp_region_held_drew (S:=fun w'=>w'.cell? ⟨B,pc,none⟩=some x∧w'.cell? ⟨B,ch,none⟩=some y) k_ ⟨l1,l2⟩ (fun hHeld=>?_)
    refine tq 0 ?_;refine tq 1 ?_;refine tq 2 ?_;refine tq 3 ?_;refine tq 4 ?_;refine tq 5 ?_;refine tq 6 ?_;refine tq 7 ?_;refine tq 8 ?_;refine tq 9 ?_;refine tq 10 ?_;refine tr 11 fun K hK=>?_
    go_simp
    go_at_fn g;refine (HCxy.out _ HSd.out).mono ?_;rintro e w2 ⟨rfl,hb⟩;have hS2:=HSd.out.below hb;have HS2:=hj_ hS2;have l1:=hS2.cell hx;have l2:=hS2.cell hy;clear hS2 hb
    go_wp2_with fail;refine hK.out _ _ ⟨l1,l2⟩ (fun hHeld=>?_)
    clear hK K;refine tq 12 ?_;refine tq 13 ?_;refine wpAnyH_done k_ ?_ _
    by_cases hc:cf x y<0
    ·rw [decide_eq_true hc]
     have R1:=hj_ (show ch=r0∨∃ x y,d[nn-1-ch]? = some x∧d[ch]? = some y∧cf x y<0 from Or.inr ⟨x,y,by rw [← HCh.out.2.1];exact hx,hy,hc⟩)
     clear l1 l2 hc hx hy;go_wp2_with fail
     go_roundw
     case rel=>exact ⟨i,ch,rfl,rfl,hai,HCh.out.2.2.2.1,by have:=HCh.out;omega,P1,R1,HS2.out⟩
     case measure=>have:=HCh.out;simp [intOf];omega
    ·rw [decide_eq_false hc]
     have R1:=hj_ (show ch+1=s0∨∃ x y,d[ch+1-1]? = some x∧d[nn-(ch+1)]? = some y∧0≤cf y x from Or.inr ⟨y,x,hy,by rw [HCh.out.2.2.1];exact hx,Int.not_lt.1 hc⟩)
     clear l1 l2 hc hx hy;go_wp2_with fail
     go_roundw
     case rel=>exact ⟨ch+1,j,by go_num,rfl,by have:=HCh.out;omega,by have:=HCh.out;omega,hjb,R1,P2,HS2.out⟩
     case measure=>have:=HCh.out;simp [intOf];omega
   ·obtain rfl:i=j:=by omega
    obtain ⟨s,rfl⟩:=ex_ i;have hF:=HF.out;have hltz:¬ (s:Int)<(s:Int):=o_
    obtain ⟨e,he⟩:=ex_ (nn-s);have k17:IntKind.i64.wrap ((nn:Int)-(s:Int))=(e:Int):=by rw [show (nn:Int)-(s:Int)=(e:Int) by omega];exact IntWalk.i64_in _ o_
    have HFe:=hj_ (show mid=s+(e-m)∧a≤s∧s≤m∧m≤e∧e≤b∧a<mid∧mid<b∧b≤len∧s≤mid∧mid≤e from ⟨o_,o_,o_,o_,o_,o_,o_,hb,o_,o_⟩)
    have C1:=hj_ (show s=a∨e=b∨∃ x y,d[s-1]? = some x∧d[e]? = some y∧0≤cf y x from by
     rcases P1.out with h | h
     ·exact Or.inl o_
     ·exact Or.inr (Or.inr (by rw [he];exact h)))
    have C2:=hj_ (show s=m∨e=m∨∃ x y,d[e-1]? = some x∧d[s]? = some y∧0≤cf y x from by
     rcases P2.out with h | ⟨x,y,h1,h2,h3⟩
     ·exact Or.inl o_
     ·exact Or.inr (Or.inr ⟨x,y,by rw [show e-1=nn-1-s by omega];exact h1,h2,HA.out _ _ h3⟩))
    have HRot:=hj_ (fun (s m e:Nat) (w':World) (hs:SR w0 B t sp d w') h1 h2 (h3:e≤len)=>(show Calls prog 159 #[.slice (some ⟨B,0,none⟩) len c,.int .i64 s,.int .i64 m,.int .i64 e,.func (.func g) #[] cb] w' fun e' w''=>e' = .returned (.tuple #[])∧∃ d',Mv (rotI s m e) d d'∧SR w0 B t sp d' w'' from by
     rw [← hld];exact q0iq _ B c t sp w0 s m e d w' hs h1 h2 o_ o_ (fun x hx=>H1.out x (HP0.out.subset hx))))
    clear hF he
    by_cases bM:s<m
    ·by_cases bD:s<mid
     ·by_cases bA:a<s
      ·by_cases bE:e<b
       ·have zM:(s:Int)<(m:Int):=by omega
        have zD1:(m:Int)<(e:Int):=by have:=HFe.out;omega
        have zA:(a:Int)<(s:Int):=o_
        have zD2:(s:Int)<(mid:Int):=o_
        have zM2:(mid:Int)<(e:Int):=by have:=HFe.out;omega
        have zE:(e:Int)<(b:Int):=o_
        go_wp2_with fail;refine (HRot.out s m e _ HSr.out o_ (oh_ HFe.out) (oh_ HFe.out)).mono ?_
        rintro e9 w1 ⟨rfl,d1,hmv,hs1⟩;have HS1:=hj_ hs1;clear hs1;have HQ:=hj_ (lf1 HT.out hmv HFe.out HSa.out HSb.out C1.out C2.out);clear hmv;go_wp2_with fail;refine (HRec.out a s mid d1 _ (by have:=HN.out;have:=HFe.out;omega) HS1.out (HQ.out.1.perm.trans HP0.out) o_ o_ (oh_ HFe.out) HQ.out.2.1 HQ.out.2.2.1).mono ?_
        rintro e9 w2 ⟨rfl,d2,hp2,hl2,hs2⟩;have HP2:=hj_ hp2;have HL2:=hj_ hl2;have HS2:=hj_ hs2;clear hp2 hl2 hs2;go_wp2_with fail;refine (HRec.out mid e b d2 _ (by have:=HN.out;have:=HFe.out;omega) HS2.out ((HP2.out.perm.trans HQ.out.1.perm).trans HP0.out) (oh_ HFe.out) o_ o_ (lf2 HFe.out HQ.out HP2.out).1 (lf2 HFe.out HQ.out HP2.out).2).mono ?_
        rintro e9 w3 ⟨rfl,d3,hp3,hl3,hs3⟩;have HP3:=hj_ hp3;have HL3:=hj_ hl3;have HS3:=hj_ hs3;clear hp3 hl3 hs3;go_wp2_with fail
        go_end0
        obtain ⟨u1,u2⟩:=lf3 HFe.out HQ.out HP2.out HP3.out HL2.out HL3.out;exact ⟨rfl,d3,u1,u2,HS3.out⟩
       ·have zM:(s:Int)<(m:Int):=by omega
        have zD1:(m:Int)<(e:Int):=by have:=HFe.out;omega
        have zA:(a:Int)<(s:Int):=o_
        have zD2:(s:Int)<(mid:Int):=o_
        have zM2:(mid:Int)<(e:Int):=by have:=HFe.out;omega
        have zE:¬ (e:Int)<(b:Int):=o_
        go_wp2_with fail;refine (HRot.out s m e _ HSr.out o_ (oh_ HFe.out) (oh_ HFe.out)).mono ?_
        rintro e9 w1 ⟨rfl,d1,hmv,hs1⟩;have HS1:=hj_ hs1;clear hs1;have HQ:=hj_ (lf1 HT.out hmv HFe.out HSa.out HSb.out C1.out C2.out);clear hmv;go_wp2_with fail;refine (HRec.out a s mid d1 _ (by have:=HN.out;have:=HFe.out;omega) HS1.out (HQ.out.1.perm.trans HP0.out) o_ o_ (oh_ HFe.out) HQ.out.2.1 HQ.out.2.2.1).mono ?_
        rintro e9 w2 ⟨rfl,d2,hp2,hl2,hs2⟩;have HP2:=hj_ hp2;have HL2:=hj_ hl2;have HS2:=hj_ hs2;clear hp2 hl2 hs2;have HL3:=hj_ (show SegS cf mid b d2 by have h:=(lf2 HFe.out HQ.out HP2.out).1;rw [show b=e by have:=HFe.out;omega];exact h)
        go_wp2_with fail
        go_end0
        obtain ⟨u1,u2⟩:=lf3 HFe.out HQ.out HP2.out (PI.refl mid b d2) HL2.out HL3.out;exact ⟨rfl,d2,u1,u2,HS2.out⟩
      ·by_cases bE:e<b
       ·have zM:(s:Int)<(m:Int):=by omega
        have zD1:(m:Int)<(e:Int):=by have:=HFe.out;omega
        have zA:¬ (a:Int)<(s:Int):=o_
        have zM2:(mid:Int)<(e:Int):=by have:=HFe.out;omega
        have zE:(e:Int)<(b:Int):=o_
        go_wp2_with fail;refine (HRot.out s m e _ HSr.out o_ (oh_ HFe.out) (oh_ HFe.out)).mono ?_
        rintro e9 w1 ⟨rfl,d1,hmv,hs1⟩;have HS1:=hj_ hs1;clear hs1;have HQ:=hj_ (lf1 HT.out hmv HFe.out HSa.out HSb.out C1.out C2.out);clear hmv;have HL2:=hj_ (show SegS cf a mid d1 by rw [show a=s by have:=HFe.out;omega];exact HQ.out.2.2.1)
        go_wp2_with fail;refine (HRec.out mid e b d1 _ (by have:=HN.out;have:=HFe.out;omega) HS1.out (((PI.refl a mid d1).perm.trans HQ.out.1.perm).trans HP0.out) (oh_ HFe.out) o_ o_ (lf2 HFe.out HQ.out (PI.refl a mid d1)).1 (lf2 HFe.out HQ.out (PI.refl a mid d1)).2).mono ?_
        rintro e9 w3 ⟨rfl,d3,hp3,hl3,hs3⟩;have HP3:=hj_ hp3;have HL3:=hj_ hl3;have HS3:=hj_ hs3;clear hp3 hl3 hs3;go_wp2_with fail
        go_end0
        obtain ⟨u1,u2⟩:=lf3 HFe.out HQ.out (PI.refl a mid d1) HP3.out HL2.out HL3.out;exact ⟨rfl,d3,u1,u2,HS3.out⟩
       ·have zM:(s:Int)<(m:Int):=by omega
        have zD1:(m:Int)<(e:Int):=by have:=HFe.out;omega
        have zA:¬ (a:Int)<(s:Int):=o_
        have zM2:(mid:Int)<(e:Int):=by have:=HFe.out;omega
        have zE:¬ (e:Int)<(b:Int):=o_
        go_wp2_with fail;refine (HRot.out s m e _ HSr.out o_ (oh_ HFe.out) (oh_ HFe.out)).mono ?_
        rintro e9 w1 ⟨rfl,d1,hmv,hs1⟩;have HS1:=hj_ hs1;clear hs1;have HQ:=hj_ (lf1 HT.out hmv HFe.out HSa.out HSb.out C1.out C2.out);clear hmv;have HL2:=hj_ (show SegS cf a mid d1 by rw [show a=s by have:=HFe.out;omega];exact HQ.out.2.2.1)
        have HL3:=hj_ (show SegS cf mid b d1 by have h:=(lf2 HFe.out HQ.out (PI.refl a mid d1)).1;rw [show b=e by have:=HFe.out;omega];exact h)
        go_wp2_with fail
        go_end0
        obtain ⟨u1,u2⟩:=lf3 HFe.out HQ.out (PI.refl a mid d1) (PI.refl mid b d1) HL2.out HL3.out;exact ⟨rfl,d1,u1,u2,HS1.out⟩
     ·by_cases bA:a<s
      ·by_cases bE:e<b
       ·have zM:(s:Int)<(m:Int):=by omega
        have zD1:¬ (m:Int)<(e:Int):=by have:=HFe.out;omega
        have zA:(a:Int)<(s:Int):=o_
        have zD2:¬ (s:Int)<(mid:Int):=o_
        have zM2:(mid:Int)<(e:Int):=by have:=HFe.out;omega
        have zE:(e:Int)<(b:Int):=o_
        go_wp2_with fail;have hmv:Mv (rotI s m e) d d:=Mv.refl d (fun q=>by have h:=HFe.out;rw [show e=m by omega];exact q0hf s m q)
        have HQ:=hj_ (lf1 HT.out hmv HFe.out HSa.out HSb.out C1.out C2.out);clear hmv;have HL2:=hj_ (show SegS cf a mid d by rw [show mid=s by omega];exact HQ.out.2.1)
        refine (HRec.out mid e b d _ (by have:=HN.out;have:=HFe.out;omega) HSr.out (((PI.refl a mid d).perm.trans HQ.out.1.perm).trans HP0.out) (oh_ HFe.out) o_ o_ (lf2 HFe.out HQ.out (PI.refl a mid d)).1 (lf2 HFe.out HQ.out (PI.refl a mid d)).2).mono ?_
        rintro e9 w3 ⟨rfl,d3,hp3,hl3,hs3⟩;have HP3:=hj_ hp3;have HL3:=hj_ hl3;have HS3:=hj_ hs3;clear hp3 hl3 hs3;go_wp2_with fail
        go_end0
        obtain ⟨u1,u2⟩:=lf3 HFe.out HQ.out (PI.refl a mid d) HP3.out HL2.out HL3.out;exact ⟨rfl,d3,u1,u2,HS3.out⟩
       ·have zM:(s:Int)<(m:Int):=by omega
        have zD1:¬ (m:Int)<(e:Int):=by have:=HFe.out;omega
        have zA:(a:Int)<(s:Int):=o_
        have zD2:¬ (s:Int)<(mid:Int):=o_
        have zM2:(mid:Int)<(e:Int):=by have:=HFe.out;omega
        have zE:¬ (e:Int)<(b:Int):=o_
        go_wp2_with fail;have hmv:Mv (rotI s m e) d d:=Mv.refl d (fun q=>by have h:=HFe.out;rw [show e=m by omega];exact q0hf s m q)
        have HQ:=hj_ (lf1 HT.out hmv HFe.out HSa.out HSb.out C1.out C2.out);clear hmv;have HL2:=hj_ (show SegS cf a mid d by rw [show mid=s by omega];exact HQ.out.2.1)
        have HL3:=hj_ (show SegS cf mid b d by have h:=(lf2 HFe.out HQ.out (PI.refl a mid d)).1;rw [show b=e by have:=HFe.out;omega];exact h)
        go_end0
        obtain ⟨u1,u2⟩:=lf3 HFe.out HQ.out (PI.refl a mid d) (PI.refl mid b d) HL2.out HL3.out;exact ⟨rfl,d,u1,u2,HSr.out⟩
      ·by_cases bE:e<b
       ·have zM:(s:Int)<(m:Int):=by omega
        have zD1:¬ (m:Int)<(e:Int):=by have:=HFe.out;omega
        have zA:¬ (a:Int)<(s:Int):=o_
        have zM2:(mid:Int)<(e:Int):=by have:=HFe.out;omega
        have zE:(e:Int)<(b:Int):=o_
        go_wp2_with fail;have hmv:Mv (rotI s m e) d d:=Mv.refl d (fun q=>by have h:=HFe.out;rw [show e=m by omega];exact q0hf s m q)
        have HQ:=hj_ (lf1 HT.out hmv HFe.out HSa.out HSb.out C1.out C2.out);clear hmv;have HL2:=hj_ (show SegS cf a mid d by rw [show a=s by have:=HFe.out;omega];exact HQ.out.2.2.1)
        refine (HRec.out mid e b d _ (by have:=HN.out;have:=HFe.out;omega) HSr.out (((PI.refl a mid d).perm.trans HQ.out.1.perm).trans HP0.out) (oh_ HFe.out) o_ o_ (lf2 HFe.out HQ.out (PI.refl a mid d)).1 (lf2 HFe.out HQ.out (PI.refl a mid d)).2).mono ?_
        rintro e9 w3 ⟨rfl,d3,hp3,hl3,hs3⟩;have HP3:=hj_ hp3;have HL3:=hj_ hl3;have HS3:=hj_ hs3;clear hp3 hl3 hs3;go_wp2_with fail
        go_end0
        obtain ⟨u1,u2⟩:=lf3 HFe.out HQ.out (PI.refl a mid d) HP3.out HL2.out HL3.out;exact ⟨rfl,d3,u1,u2,HS3.out⟩
       ·have zM:(s:Int)<(m:Int):=by omega
        have zD1:¬ (m:Int)<(e:Int):=by have:=HFe.out;omega
        have zA:¬ (a:Int)<(s:Int):=o_
        have zM2:(mid:Int)<(e:Int):=by have:=HFe.out;omega
        have zE:¬ (e:Int)<(b:Int):=o_
        go_wp2_with fail;have hmv:Mv (rotI s m e) d d:=Mv.refl d (fun q=>by have h:=HFe.out;rw [show e=m by omega];exact q0hf s m q)
        have HQ:=hj_ (lf1 HT.out hmv HFe.out HSa.out HSb.out C1.out C2.out);clear hmv;have HL2:=hj_ (show SegS cf a mid d by rw [show a=s by have:=HFe.out;omega];exact HQ.out.2.2.1)
        have HL3:=hj_ (show SegS cf mid b d by have h:=(lf2 HFe.out HQ.out (PI.refl a mid d)).1;rw [show b=e by have:=HFe.out;omega];exact h)
        go_end0
        obtain ⟨u1,u2⟩:=lf3 HFe.out HQ.out (PI.refl a mid d) (PI.refl mid b d) HL2.out HL3.out;exact ⟨rfl,d,u1,u2,HSr.out⟩
    ·by_cases bD:s<mid
     ·by_cases bA:a<s
      ·have zM:¬ (s:Int)<(m:Int):=by omega
       have zA:(a:Int)<(s:Int):=o_
       have zD2:(s:Int)<(mid:Int):=o_
       have zM2:¬ (mid:Int)<(e:Int):=by have:=HFe.out;omega
       go_wp2_with fail;have hmv:Mv (rotI s m e) d d:=Mv.refl d (fun q=>by have h:=HFe.out;rw [show s=m by omega];exact q0he m e q)
       have HQ:=hj_ (lf1 HT.out hmv HFe.out HSa.out HSb.out C1.out C2.out);clear hmv;refine (HRec.out a s mid d _ (by have:=HN.out;have:=HFe.out;omega) HSr.out (HQ.out.1.perm.trans HP0.out) o_ o_ (oh_ HFe.out) HQ.out.2.1 HQ.out.2.2.1).mono ?_
       rintro e9 w2 ⟨rfl,d2,hp2,hl2,hs2⟩;have HP2:=hj_ hp2;have HL2:=hj_ hl2;have HS2:=hj_ hs2;clear hp2 hl2 hs2;have HL3:=hj_ (show SegS cf mid b d2 by have h:=(lf2 HFe.out HQ.out HP2.out).2;rw [show mid=e by have:=HFe.out;omega];exact h)
       go_wp2_with fail
       go_end0
       obtain ⟨u1,u2⟩:=lf3 HFe.out HQ.out HP2.out (PI.refl mid b d2) HL2.out HL3.out;exact ⟨rfl,d2,u1,u2,HS2.out⟩
      ·have zM:¬ (s:Int)<(m:Int):=by omega
       have zA:¬ (a:Int)<(s:Int):=o_
       have zM2:¬ (mid:Int)<(e:Int):=by have:=HFe.out;omega
       go_wp2_with fail;have hmv:Mv (rotI s m e) d d:=Mv.refl d (fun q=>by have h:=HFe.out;rw [show s=m by omega];exact q0he m e q)
       have HQ:=hj_ (lf1 HT.out hmv HFe.out HSa.out HSb.out C1.out C2.out);clear hmv;have HL2:=hj_ (show SegS cf a mid d by rw [show a=s by have:=HFe.out;omega];exact HQ.out.2.2.1)
       have HL3:=hj_ (show SegS cf mid b d by have h:=(lf2 HFe.out HQ.out (PI.refl a mid d)).2;rw [show mid=e by have:=HFe.out;omega];exact h)
       go_end0
       obtain ⟨u1,u2⟩:=lf3 HFe.out HQ.out (PI.refl a mid d) (PI.refl mid b d) HL2.out HL3.out;exact ⟨rfl,d,u1,u2,HSr.out⟩
     ·by_cases bA:a<s
      ·have zM:¬ (s:Int)<(m:Int):=by omega
       have zA:(a:Int)<(s:Int):=o_
       have zD2:¬ (s:Int)<(mid:Int):=o_
       have zM2:¬ (mid:Int)<(e:Int):=by have:=HFe.out;omega
       go_wp2_with fail;have hmv:Mv (rotI s m e) d d:=Mv.refl d (fun q=>by have h:=HFe.out;rw [show s=m by omega];exact q0he m e q)
       have HQ:=hj_ (lf1 HT.out hmv HFe.out HSa.out HSb.out C1.out C2.out);clear hmv;have HL2:=hj_ (show SegS cf a mid d by rw [show mid=s by omega];exact HQ.out.2.1)
       have HL3:=hj_ (show SegS cf mid b d by have h:=(lf2 HFe.out HQ.out (PI.refl a mid d)).2;rw [show mid=e by have:=HFe.out;omega];exact h)
       go_end0
       obtain ⟨u1,u2⟩:=lf3 HFe.out HQ.out (PI.refl a mid d) (PI.refl mid b d) HL2.out HL3.out;exact ⟨rfl,d,u1,u2,HSr.out⟩
      ·have zM:¬ (s:Int)<(m:Int):=by omega
       have zA:¬ (a:Int)<(s:Int):=o_
       have zM2:¬ (mid:Int)<(e:Int):=by have:=HFe.out;omega
       go_wp2_with fail;have hmv:Mv (rotI s m e) d d:=Mv.refl d (fun q=>by have h:=HFe.out;rw [show s=m by omega];exact q0he m e q)
       have HQ:=hj_ (lf1 HT.out hmv HFe.out HSa.out HSb.out C1.out C2.out);clear hmv;have HL2:=hj_ (show SegS cf a mid d by rw [show a=s by have:=HFe.out;omega];exact HQ.out.2.2.1)
       have HL3:=hj_ (show SegS cf mid b d by have h:=(lf2 HFe.out HQ.out (PI.refl a mid d)).2;rw [show mid=e by have:=HFe.out;omega];exact h)
       go_end0
       obtain ⟨u1,u2⟩:=lf3 HFe.out HQ.out (PI.refl a mid d) (PI.refl mid b d) HL2.out HL3.out;exact ⟨rfl,d,u1,u2,HSr.out⟩
theorem int_eq {a b:Int} (h:a=b):Value.int .i64 a=Value.int .i64 b:=by rw [h]
theorem q0fu (h1:d ∣ p) (h2:d ∣ a) (h:p<a+d):p≤a:=by
 rcases Nat.lt_or_ge a p with h3 | h3
 ·have:=Nat.le_of_dvd o_ (Nat.dvd_sub h1 h2)
  omega
 ·exact h3
theorem q0fv (h1:d ∣ p) (h2:d ∣ a) (h:p<a):p+d≤a:=by
 have:=Nat.le_of_dvd o_ (Nat.dvd_sub h2 h1)
 omega
def Blk {α:Type} (cf:α→α→Int) (s n:Nat) (d:List α):Prop:=∀ p,s ∣ p→p<n→SegS cf p (min (p+s) n) d
def Mix {α:Type} (cf:α→α→Int) (s a n:Nat) (d:List α):Prop:=(∀ p,2*s ∣ p→p<a→SegS cf p (p+2*s) d)∧∀ p,s ∣ p→a≤p→p<n→SegS cf p (min (p+s) n) d
section
variable {α:Type} {cf:α→α→Int}
theorem q0ee {d d':List α} (hd:s ∣ a) (h:Blk cf s a d) (hp:PI a (a+s) d d') (hs:SegS cf a (a+s) d'):Blk cf s (a+s) d':=fun p h1 h2=>by
 rcases Nat.lt_or_eq_of_le (q0fu h1 hd h2) with h3 | rfl
 ·have h4:=q0fv h1 hd h3
  rw [Nat.min_eq_left o_]
  have h5:=h p h1 h3;rw [Nat.min_eq_left h4] at h5;exact h5.far hp (Or.inl h4)
 ·rw [Nat.min_eq_left lr_]
  exact hs
theorem q0ed {d d':List α} (hd:s ∣ a) (h:Blk cf s a d) (han:a≤n) (hn:n<a+s) (hp:PI a n d d') (hs:SegS cf a n d'):Blk cf s n d':=fun p h1 h2=>by
 rcases Nat.lt_or_eq_of_le (q0fu h1 hd o_) with h3 | rfl
 ·have h4:=q0fv h1 hd h3
  rw [Nat.min_eq_left o_]
  have h5:=h p h1 h3;rw [Nat.min_eq_left h4] at h5;exact h5.far hp (Or.inl h4)
 ·rw [Nat.min_eq_right o_]
  exact hs
theorem q0ft {d:List α} (h:Blk cf s n d):Mix cf s 0 n d:=⟨fun _ _ h=>absurd h (Nat.not_lt_zero _),fun p h1 _ h2=>h p h1 h2⟩
theorem Mix.two {d:List α} (hs:0<s) (hd:2*s ∣ a) (h:Mix cf s a n d) (hb:a+s<n):SegS cf a (a+s) d∧SegS cf (a+s) (min (a+2*s) n) d:=by
 have ha:s ∣ a:=Nat.dvd_trans (Nat.dvd_mul_left s 2) hd;have h1:=h.2 a ha lr_ o_
 rw [Nat.min_eq_left o_] at h1
 have h2:=h.2 (a+s) (Nat.dvd_add ha (Nat.dvd_refl _)) o_ hb
 rw [show a+s+s=a+2*s by omega] at h2
 exact ⟨h1,h2⟩
theorem Mix.step {d d':List α} (hd:2*s ∣ a) (h:Mix cf s a n d) (hb:a+2*s≤n) (hp:PI a (a+2*s) d d') (hs:SegS cf a (a+2*s) d'):Mix cf s (a+2*s) n d' :=
 ⟨fun p h1 h2=>by
  rcases Nat.lt_or_eq_of_le (q0fu h1 hd h2) with h3 | rfl
  ·exact (h.1 p h1 h3).far hp (Or.inl (q0fv h1 hd h3))
  ·exact hs,fun p h1 h2 h3=>(h.2 p h1 o_ h3).far hp (Or.inr h2)⟩
theorem Mix.last {d d':List α} (hd:2*s ∣ a) (h:Mix cf s a n d) (hn:n<a+2*s) (hp:PI a n d d') (hs:SegS cf a n d'):Blk cf (2*s) n d':=fun p h1 h2=>by
 rcases Nat.lt_or_eq_of_le (q0fu h1 hd o_) with h3 | rfl
 ·have h4:=q0fv h1 hd h3
  rcases Nat.le_total (p+2*s) n with h6 | h6
  ·rw [Nat.min_eq_left h6]
   exact (h.1 p h1 h3).far hp (Or.inl h4)
  ·exact fun i j x y q1 q2 q3 hx hy=>(h.1 p h1 h3).far hp (Or.inl h4) i j x y q1 q2 o_ hx hy
 ·rw [Nat.min_eq_right o_]
  exact hs
theorem Mix.one {d:List α} (hs:0<s) (hd:2*s ∣ a) (h:Mix cf s a n d) (hn:n≤a+s):Blk cf (2*s) n d:=by
 refine h.last hd o_ (PI.refl _ _ _) ?_
 by_cases ha:a<n
 ·have h1:=h.2 a (Nat.dvd_trans (Nat.dvd_mul_left s 2) hd) lr_ ha
  rw [Nat.min_eq_right hn] at h1;exact h1
 ·exact SegS.empty o_
theorem q0ec {d:List α} (h:Blk cf s n d) (hs:n≤s):SegS cf 0 n d:=by
 by_cases hn:0<n
 ·have h1:=h 0 (Nat.dvd_zero _) hn
  rw [Nat.zero_add,Nat.min_eq_right hs] at h1;exact h1
 ·exact SegS.empty o_
end
theorem q0iu (g:Nat) (cb:Array Value) (cf:Value→Value→Int) (B c:Nat) (t:TypeId) (sp d0:List Value) (w0:World) (eg:∀ args w,(callFunc g args).run prog w=.ok (.enter g args) w) (hT:∀ x y z,0≤cf y x→0≤cf z y→0≤cf z x) (hA:∀ x y,cf x y<0→0≤cf y x)
  (hcmp:∀ w',w0.grownBy w' (some B)→∀ x ∈ d0,∀ y ∈ d0,Calls prog g (#[x,y] ++ cb) w' fun e w''=>e=.returned (.int .i64 (cf x y))∧Below w'.heap.size w' w'') (h1c:∀ x ∈ d0,∃ A n c,x=.slice A n c) (len:Nat) (hlen:d0.length=len) (hsz:len≤1000000) (w:World) (hS:SR w0 B t sp d0 w) :
  Calls prog 65 #[.slice (some ⟨B,0,none⟩) len c,.int .i64 len,.func (.func g) #[] cb] w fun e w'=>e=.returned (.tuple #[])∧∃ d',d'.Perm d0∧SegS cf 0 len d'∧SR w0 B t sp d' w':=by
 have HIns:=hj_ (fun (a b:Nat) (d:List Value) (w':World) (hs:SR w0 B t sp d w') (hp:d.Perm d0) h1 (h2:b≤len)=>(show Calls prog 110 #[.slice (some ⟨B,0,none⟩) len c,.int .i64 a,.int .i64 b,.func (.func g) #[] cb] w' fun e w''=>e=.returned (.tuple #[])∧∃ d',PI a b d d'∧SegS cf a b d'∧SR w0 B t sp d' w'' from by
  have hl:d.length=len:=hp.length_eq.trans hlen;rw [← hl] at h2 ⊢;exact q0ie g cb cf B c t sp d0 w0 eg hT hA hcmp a b d w' hs hp h1 h2 o_ h1c))
 have HSym:=hj_ (fun (a m b:Nat) (d:List Value) (w':World)=>q0iw g cb cf B c t sp d0 w0 eg hT hA hcmp h1c len hlen o_ (b-a) a m b d w' lr_)
 have HS0:=hj_ hS;clear hS hcmp eg hT hA h1c hlen
 go_enter func65,ntmps65
 go_wp2_with fail
 go_loopw [7,8] (fun av bv wr=>∃ (a:Nat) (d1:List Value),av=.int .i64 a∧bv=.int .i64 ((a:Int)+20)∧a≤len∧Hid (20 ∣ a)∧d1.Perm d0∧Hid (Blk cf 20 a d1)∧SR w0 B t sp d1 wr) (fun av _ _=>len-(intOf av).toNat)
 case atStart=>exact ⟨0,d0,rfl,int_eq o_,Nat.zero_le _,hj_ (Nat.dvd_zero _),List.Perm.refl _,hj_ (fun p _ h=>absurd h (Nat.not_lt_zero _)),HS0.out⟩
 case round =>
  obtain ⟨a,d1,rfl,rfl,han,hdv,hp,hbk,hs⟩:=hrel;have HP:=hj_ hp;have HSr:=hj_ hs;clear hp hs
  by_cases hlt:a+20≤len
  ·have hltz:(a:Int)+20≤(len:Int):=by omega
   have k1:IntKind.i64.wrap ((a:Int)+20+20)=(a:Int)+20+20:=IntWalk.i64_in _ o_
   have HIn2:=hj_ (HIns.out a (a+20) d1);rw [show ((a+20:Nat):Int)=(a:Int)+20 by omega] at HIn2
   go_wp2_with fail;refine (HIn2.out _ HSr.out HP.out o_ hlt).mono ?_
   rintro e w2 ⟨rfl,d2,hpi,hse,hs2⟩;have HP2:=hj_ (hpi.perm.trans HP.out);have HB2:=hj_ (q0ee hdv.out hbk.out hpi hse);have HD2:=hj_ (Nat.dvd_add hdv.out (Nat.dvd_refl 20));have HS2:=hj_ hs2;clear hpi hse hs2;go_wp2_with fail
   go_roundw
   case rel=>exact ⟨a+20,d2,int_eq o_,int_eq o_,hlt,HD2,HP2.out,HB2,HS2.out⟩
   case measure=>simp [intOf];omega
  ·have hltz:¬ (a:Int)+20≤(len:Int):=by omega
   rename World=>V1
   go_wp2_with fail;refine (HIns.out a len d1 _ HSr.out HP.out han lr_).mono ?_;rintro e w2 ⟨rfl,d2,hpi,hse,hs2⟩;have HP2:=hj_ (hpi.perm.trans HP.out);have HB2:=hj_ (q0ed hdv.out hbk.out han o_ hpi hse)
   have HS2:=hj_ hs2;clear hpi hse hs2 hltz hdv hbk;go_wp2_with fail
   go_loopw [6,7,8,9] (fun sv av bv mv wr=>∃ (s:Nat) (d3:List Value),sv=.int .i64 s∧0<s∧s≤2*len+20∧d3.Perm d0∧Hid (Blk cf s len d3)∧SR w0 B t sp d3 wr) (fun sv _ _ _ _=>2*len-(intOf sv).toNat)
   case atStart=>exact ⟨20,d2,rfl,o_,o_,HP2.out,HB2,HS2.out⟩
   case round =>
    obtain ⟨s,d3,rfl,hs0,hs1,hp,hbk,hs⟩:=hrel;have HP3:=hj_ hp;have HS3:=hj_ hs;clear hp hs
    by_cases hlt2:s<len
    ·have hltz:(s:Int)<(len:Int):=by omega
     have k1:IntKind.i64.wrap (2*(s:Int))=2*(s:Int):=IntWalk.i64_in _ o_
     have k2:IntKind.i64.wrap ((s:Int)*2)=(s:Int)*2:=IntWalk.i64_in _ o_
     have hbk0:=hj_ (q0ft hbk.out)
     rename World=>V2
     go_wp2_with fail
     go_loopw [7,8] (fun av bv wr=>∃ (a:Nat) (d4:List Value),av=.int .i64 a∧bv=.int .i64 ((a:Int)+2*(s:Int))∧a≤len∧Hid (2*s ∣ a)∧d4.Perm d0∧Hid (Mix cf s a len d4)∧SR w0 B t sp d4 wr) (fun av _ _=>len-(intOf av).toNat)
     case atStart=>exact ⟨0,d3,rfl,int_eq o_,Nat.zero_le _,hj_ (Nat.dvd_zero _),HP3.out,hbk0,HS3.out⟩
     case round =>
      obtain ⟨a,d4,rfl,rfl,han,hdv,hp,hmx,hs⟩:=hrel;have HP4:=hj_ hp;have HS4:=hj_ hs;have k3:IntKind.i64.wrap ((a:Int)+(s:Int))=(a:Int)+(s:Int):=IntWalk.i64_in _ o_
      clear hp hs
      by_cases hlt3:a+2*s≤len
      ·have hz3:(a:Int)+2*(s:Int)≤(len:Int):=by omega
       have k4:IntKind.i64.wrap ((a:Int)+2*(s:Int)+2*(s:Int))=(a:Int)+2*(s:Int)+2*(s:Int):=IntWalk.i64_in _ o_
       have HSy:=hj_ (HSym.out a (a+s) (a+2*s) d4);rw [show ((a+s:Nat):Int)=(a:Int)+(s:Int) by omega,show ((a+2*s:Nat):Int)=(a:Int)+2*(s:Int) by omega] at HSy
       have h2:=hmx.out.two hs0 hdv.out o_
       rw [Nat.min_eq_left hlt3] at h2;have H2:=hj_ h2;clear h2;go_wp2_with fail;refine (HSy.out _ HS4.out HP4.out o_ o_ hlt3 H2.out.1 H2.out.2).mono ?_
       rintro e w5 ⟨rfl,d5,hpi,hse,hs5⟩;have HP5:=hj_ (hpi.perm.trans HP4.out);have HB5:=hj_ (hmx.out.step hdv.out hlt3 hpi hse);have HD5:=hj_ (Nat.dvd_add hdv.out (Nat.dvd_refl (2*s)));have HS5:=hj_ hs5;clear hpi hse hs5;go_wp2_with fail
       go_roundw
       case rel=>exact ⟨a+2*s,d5,int_eq o_,int_eq o_,hlt3,HD5,HP5.out,HB5,HS5.out⟩
       case measure=>simp [intOf];omega
      ·have hz3:¬ (a:Int)+2*(s:Int)≤(len:Int):=by omega
       by_cases hm:a+s<len
       ·have hz4:(a:Int)+(s:Int)<(len:Int):=by omega
        have HSy:=hj_ (HSym.out a (a+s) len d4);rw [show ((a+s:Nat):Int)=(a:Int)+(s:Int) by omega] at HSy
        have h2:=hmx.out.two hs0 hdv.out hm;rw [Nat.min_eq_right o_] at h2
        have H2:=hj_ h2;clear h2;go_wp2_with fail;refine (HSy.out _ HS4.out HP4.out o_ hm lr_ H2.out.1 H2.out.2).mono ?_
        rintro e w5 ⟨rfl,d5,hpi,hse,hs5⟩;have HP5:=hj_ (hpi.perm.trans HP4.out);have HB5:=hj_ (hmx.out.last hdv.out o_ hpi hse)
        have HS5:=hj_ hs5;clear hpi hse hs5;go_wp2_with fail
        go_roundw
        case rel=>exact ⟨2*s,d5,int_eq o_,o_,o_,HP5.out,HB5,HS5.out⟩
        case measure=>simp [intOf];omega
       ·have hz4:¬ (a:Int)+(s:Int)<(len:Int):=by omega
        have HB5:=hj_ (hmx.out.one hs0 hdv.out o_)
        go_wp2_with fail
        go_roundw
        case rel=>exact ⟨2*s,d4,int_eq o_,o_,o_,HP4.out,HB5,HS4.out⟩
        case measure=>simp [intOf];omega
    ·have hltz:¬ (s:Int)<(len:Int):=by omega
     have HF:=hj_ (q0ec hbk.out o_)
     go_wp2_with fail
     go_end0
     exact ⟨rfl,d3,HP3.out,HF.out,HS3.out⟩
theorem q0it (g:Nat) (cb:Array Value) (cf:Value→Value→Int) (B c:Nat) (t:TypeId) (sp d0:List Value) (w0:World) (eg:∀ args w,(callFunc g args).run prog w=.ok (.enter g args) w) (hT:∀ x y z,0≤cf y x→0≤cf z y→0≤cf z x) (hA:∀ x y,cf x y<0→0≤cf y x)
  (hcmp:∀ w',w0.grownBy w' (some B)→∀ x ∈ d0,∀ y ∈ d0,Calls prog g (#[x,y] ++ cb) w' fun e w''=>e=.returned (.int .i64 (cf x y))∧Below w'.heap.size w' w'') (h1c:∀ x ∈ d0,∃ A n c,x=.slice A n c) (len:Nat) (hlen:d0.length=len) (hsz:len≤1000000) (w:World) (hS:SR w0 B t sp d0 w) :
  Calls prog 33 #[.slice (some ⟨B,0,none⟩) len c,.func (.func g) #[] cb] w fun e w'=>e=.returned (.tuple #[])∧∃ d',d'.Perm d0∧SegS cf 0 len d'∧SR w0 B t sp d' w':=by
 have HS:=hj_ (q0iu g cb cf B c t sp d0 w0 eg hT hA hcmp h1c len hlen hsz w hS);clear eg hT hA hcmp h1c hlen hsz hS
 go_enter func33,ntmps33
 go_wp2_with fail;refine HS.out.mono ?_;rintro e w2 ⟨rfl,h⟩;have H:=hj_ h;clear h;go_wp2_with fail
 go_end0
 exact ⟨rfl,H.out⟩
end Go.Proofs.YtabhjdmmfdfpeaaGreatDoor
