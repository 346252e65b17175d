/- PowerBalances: for every input the law returns true, and its arguments read behind the call as they read before. The package variables that the row lists hold what the program's text lays. -/
import Derived.Test.YtabhjdmmfdfpeaaGreatDoorQPwI
import Derived.Test.YtabhjdmmfdfpeaaGreatDoorQPwB
import Derived.Test.YtabhjdmmfdfpeaaGreatDoorQPwE
import Derived.Test.YtabhjdmmfdfpeaaGreatDoorQPwL
import Derived.Test.YtabhjdmmfdfpeaaGreatDoorKLaw
import Derived.Test.YtabhjdmmfdfpeaaGreatDoorHPowerBalances
import Derived.Test.YtabhjdmmfdfpeaaGreatDoorCards
import Derived.Test.YtabhjdmmfdfpeaaGreatDoorTie
import Derived.SevenTiedAt
import Derived.SizedLaws
import Derived.Test.YtabhjdmmfdfpeaaGreatDoorKUp
namespace Go.Proofs.YtabhjdmmfdfpeaaGreatDoor
set_option maxHeartbeats 32000000
set_option maxRecDepth 100000
open _root_.Go.Proofs.Tryz
open Go.RowKit
variable {y:Fx} {L:List (List PT)} {PL:List (PC × List Fea)} {X Y:List Fx} {P:List PC} {xs:List Value} {base i n z:Nat} {e:TypeId} {w:World}
theorem q0o0 (X:List Fx) (p:Nat→Int) (x:Fx):setPh (X ++ [x]) p=setPh X p ++ [{ x with ph:=p X.length }]:=by unfold setPh;rw [List.mapIdx_concat]
theorem q0ny (p:Nat→Int) (h:i<X.length):(setPh X p).getD i fx0 = { X.getD i fx0 with ph:=p i }:=by
 have h2:i<(setPh X p).length:=by rw [q0ht];exact h
 rw [List.getD_eq_getElem?_getD,List.getD_eq_getElem?_getD,List.getElem?_eq_getElem h2,List.getElem?_eq_getElem h,Option.getD_some,Option.getD_some,q0hr X p i h2 h]
theorem q0nz {p:Nat→Int} (h:y ∈ setPh X p):∃ i,i<X.length∧y = { X.getD i fx0 with ph:=p i }:=by
 obtain ⟨i,hi,rfl⟩:=List.getElem_of_mem h;have h1:i<X.length:=by rw [q0ht] at hi;exact hi
 exact ⟨i,h1,by rw [← q0ny p h1,List.getD_eq_getElem?_getD,List.getElem?_eq_getElem hi,Option.getD_some]⟩
theorem q0nx (q:Fx→Bool) (hq:∀ x v,q { x with ph:=v } = q x) (X:List Fx) (p:Nat→Int):(setPh X p).any q=X.any q:=by
 refine q0hd (m:=fun X=>(setPh X p).any q=X.any q) rfl (fun X x ih=>?_) X
 rw [q0o0,List.any_append,List.any_append,ih];simp [hq]
theorem q0o1 (X:List Fx) (p:Nat→Int) (i:Nat):(setPh X p).take i=setPh (X.take i) p:=by
 apply List.ext_getElem (by rw [List.length_take,q0ht,q0ht,List.length_take])
 intro k h1 h2;have h3:k<(X.take i).length:=by rw [q0ht] at h2;exact h2
 have h4:k<X.length:=by rw [List.length_take] at h3;omega
 rw [List.getElem_take,q0hr X p k (by rw [q0ht];exact h4) h4,q0hr (X.take i) p k h2 h3,List.getElem_take]
theorem q0lp {p:Nat→Int} (h:patE P X=0) (hp:∀ i,i<X.length→1≤p i∧p i≤3):patE P (setPh X p)=0:=by
 unfold patE at h ⊢;rw [q0ht]
 by_cases h1:32<P.length∨64<X.length
 ·rw [if_pos h1] at h;cases h
 rw [if_neg h1] at h ⊢;refine q86 fun i hi=>?_
 have hz:=q89 h i hi;have hr:=(fx_ok hz).1.1;have hr2:qkt { X.getD i fx0 with ph:=p i } = true:=by
  unfold qkt at hr ⊢;simp only [Bool.and_eq_true] at hr ⊢;exact ⟨hr.1,decide_eq_true (hp i hi)⟩
 unfold fxE at hz ⊢;rw [q0ny p hi,q0o1,q0nx _ (fun _ _=>rfl),q0nx _ (fun _ _=>rfl),if_neg (by rw [hr2];exact Bool.noConfusion)]
 rw [if_neg (by rw [hr];exact Bool.noConfusion)] at hz
 exact hz
theorem q0oc {p:Nat→Int} (h:uniE L PL X=0) (hp:∀ i,i<X.length→1≤p i∧p i≤3):uniE L PL (setPh X p)=0:=by
 unfold uniE at h ⊢
 by_cases h1:errA L≠0
 ·rw [if_pos h1] at h;exact absurd h h1
 rw [if_neg h1] at h ⊢
 by_cases h2:32<PL.length
 ·rw [if_pos h2] at h;cases h
 rw [if_neg h2] at h ⊢
 by_cases h3:firstE (prE L PL) PL.length≠0
 ·rw [if_pos h3] at h;exact absurd h h3
 rw [if_neg h3] at h ⊢;exact q0lp h hp
theorem q0o9 (P:List PC) (X:List Fx) (p:Nat→Int):sumW P (setPh X p)=sumW P X:=by
 refine q0hd (m:=fun X=>sumW P (setPh X p)=sumW P X) rfl (fun X x ih=>?_) X
 rw [q0o0,q0o8,q0o8,ih];rfl
theorem WOk.set (h:WOk P X) (p:Nat→Int):WOk P (setPh X p):=fun y hy=>by
 obtain ⟨i,hi,rfl⟩:=q0nz hy;have e:X.getD i fx0=X[i]:=by rw [List.getD_eq_getElem?_getD,List.getElem?_eq_getElem hi,Option.getD_some]
 rw [e];exact h X[i] (List.getElem_mem hi)
theorem q0nw (f:Fx→Int) (q:Fx→Bool) (X:List Fx):sb f (X.filter q)=sumI (fun i=>q (X.getD i fx0)) (fun i=>f (X.getD i fx0)) X.length:=by
 refine q0hd (m:=fun X=>sb f (X.filter q)=sumI (fun i=>q (X.getD i fx0)) (fun i=>f (X.getD i fx0)) X.length) rfl (fun X x ih=>?_) X
 have e:∀ i,i<X.length→(X ++ [x]).getD i fx0=X.getD i fx0:=fun i hi=>by
  rw [List.getD_eq_getElem?_getD,List.getD_eq_getElem?_getD,List.getElem?_append_left hi]
 have e2:(X ++ [x]).getD X.length fx0=x:=s_
 have e3:sumI (fun i=>q ((X ++ [x]).getD i fx0)) (fun i=>f ((X ++ [x]).getD i fx0)) X.length=sumI (fun i=>q (X.getD i fx0)) (fun i=>f (X.getD i fx0)) X.length:=q0hw (fun i hi=>congrArg q (e i hi)) (fun i hi=>congrArg f (e i hi))
 rw [List.filter_append,sb_app,ih,List.length_append,show ([x]:List Fx).length=1 from rfl,sumI,e2,e3]
 cases h:q x
 ·rw [List.filter_cons,h];rfl
 ·rw [List.filter_cons,h,if_pos rfl,if_pos rfl];simp [sb]
theorem q0kn {c:Nat→Bool} {W:Nat→Int} {i:Nat}:∀ {n},i<n→(∀ k,k<n→(c k=true↔k=i))→sumI c W n=W i
 | 0,h,_=>absurd h (Nat.not_lt_zero _)
 | n+1,h,hc=>by
  unfold sumI
  by_cases e:n=i
  ·subst e
   rw [if_pos ((hc n o_).2 rfl),q0hy fun k hk=>by
    cases hk2:c k with
    | false=>rfl
    | true=>have:=(hc k o_).1 hk2;omega]
   omega
  ·rw [if_neg (fun h2=>e ((hc n o_).1 h2)),q0kn o_ fun k hk=>hc k o_]
   omega
theorem q0oe {U:List (List Nat)} (hU:U.Perm (unitsV X)):Units X.length U:=by
 refine ⟨fun u hu=>?_,?_⟩
 ·obtain ⟨i,hi,rfl⟩:=q0il.1 (hU.mem_iff.1 hu)
  exact ⟨fun k=>decide (uKey X k=uKey X i),rfl⟩
 ·have hn:U.Nodup:=hU.nodup_iff.2 (q0in X)
  refine List.Pairwise.imp_of_mem ?_ hn;intro u v hu hv hne k hk hk';obtain ⟨i,hi,rfl⟩:=q0il.1 (hU.mem_iff.1 hu);obtain ⟨j,hj,rfl⟩:=q0il.1 (hU.mem_iff.1 hv);exact hne ((q0ig (q0ih.1 hk).2).symm.trans (q0ig (q0ih.1 hk').2))
theorem q0od {U:List (List Nat)} (hU:U.Perm (unitsV X)) (hi:i<X.length):doneU U i=true:=by
 unfold doneU;rw [List.any_eq_true];exact ⟨unitAt X i,hU.mem_iff.2 (q0il.2 ⟨i,hi,rfl⟩),decide_eq_true (q0ih.2 ⟨hi,rfl⟩)⟩
structure Sprd (P:List PC) (X Y:List Fx):Prop where
 len:Y.length=X.length
 at_:∀ i,i<X.length→∃ v,1≤v∧v≤3∧Y.getD i fx0 = { X.getD i fx0 with ph:=v }
 uni:∀ L PL,PL.map Prod.fst=P→uniE L PL X=0→uniE L PL Y=0
 sum:sumW P Y=sumW P X
 one:∀ c ∈ cblV P Y,c.ti≠0
 even:∀ M:Int,0≤M→(∀ c ∈ cblV P Y,c.st≤M)→(∀ i,i<X.length→(X.getD i fx0).cb=⟨#[]⟩→wattV P (X.getD i fx0)≤M)→max (max (phaseV P Y 1) (phaseV P Y 2)) (phaseV P Y 3)-min (min (phaseV P Y 1) (phaseV P Y 2)) (phaseV P Y 3)≤M
theorem q0o4 {U:List (List Nat)} (hU:U.Perm (unitsV X)) (hW:WOk P X):Sprd P X (setPh X (runU (wN P X) (phX X) U).2):=by
 have hUn:=q0oe hU;have hph:∀ i,i<X.length→1≤(runU (wN P X) (phX X) U).2 i∧(runU (wN P X) (phX X) U).2 i≤3:=fun i hi=>by
  obtain ⟨k,hk,e⟩:=q0hn (W:=wN P X) (ph:=phX X) (q0od hU hi);rw [e];omega
 have hsum:=q0hp (W:=wN P X) (ph:=phX X) hUn;have hsame:=q0ho (W:=wN P X) (ph:=phX X) hUn.dis;have heven:=fun (M:Int) (hM:0≤M) h=>q0hm (W:=wN P X) (ph:=phX X) (M:=M) hM (U:=U) h
 generalize runU (wN P X) (phX X) U=R at *;have hcb:∀ i,i<X.length→((setPh X R.2).getD i fx0).cb=cbV X i:=fun i hi=>by rw [q0ny _ hi];rfl
 have hsm:∀ i j,i<X.length→j<X.length→cbV X i≠⟨#[]⟩→cbV X j=cbV X i→R.2 j=R.2 i:=fun i j hi hj h1 h2 =>
  hsame (unitAt X i) (hU.mem_iff.2 (q0il.2 ⟨i,hi,rfl⟩)) j i (q0ih.2 ⟨hj,q0i5.2 (Or.inr ⟨by rw [h2];exact h1,h2⟩)⟩) (q0ih.2 ⟨hi,rfl⟩)
 have hwn:∀ i,wattV P ((setPh X R.2).getD i fx0)=wN P X i:=fun i=>q0hq X R.2 i
 refine ⟨q0ht _ _,fun i hi=>⟨R.2 i,(hph i hi).1,(hph i hi).2,q0ny _ hi⟩,fun L PL _ h=>q0oc h hph,q0o9 P X R.2,fun c hc=>?_,fun M hM h1 h2=>?_⟩
 ·rw [q0ks,List.mem_map] at hc
  obtain ⟨k,hk,rfl⟩:=hc;obtain ⟨hk0,x,hx,hxk⟩:=q0lj.1 hk;show phOf (gK (setPh X R.2) k)≠0
  obtain ⟨i,hi,e⟩:=q0nz hx;have hik:cbV X i=k:=by rw [← hxk,e];rfl
  have hall:∀ y ∈ gK (setPh X R.2) k,y.ph=R.2 i:=fun y hy=>by
   obtain ⟨hy1,hy2⟩:=List.mem_filter.1 hy;obtain ⟨j,hj,rfl⟩:=q0nz hy1;exact hsm i j hi hj (by rw [hik];exact hk0) (by rw [hik];exact of_decide_eq_true hy2)
  have hm:x ∈ gK (setPh X R.2) k:=List.mem_filter.2 ⟨hx,by simpa using hxk⟩
  have hv:=(hph i hi).1
  revert hall hm
  generalize gK (setPh X R.2) k=g;intro hall hm
  cases g with
  | nil=>cases hm
  | cons a g =>
   have ha:a.ph=R.2 i:=hall a s_
   have hany:(a :: g).any (fun x=>decide (x.ph≠((a :: g).headD fx0).ph))=false:=by
    rw [List.any_eq_false];intro y hy
    have:=hall y hy
    show ¬ decide (y.ph≠a.ph)=true
    rw [decide_eq_true_eq,this,ha];exact fun h=>h rfl
   unfold phOf;rw [hany,if_neg Bool.false_ne_true];show a.ph≠0
   omega
 ·have hphv:∀ k:Nat,k<3→phaseV P (setPh X R.2) ((k:Int)+1)=nthS R.1 k:=fun k hk=>by
   rw [q0ls,q0nw,q0ht,hsum k hk];refine q0hw (fun i hi=>?_) (fun i _=>hwn i)
   rw [q0od hU hi,q0ny _ hi,Bool.true_and]
  have hu:∀ u ∈ U,0≤uW (wN P X) u∧uW (wN P X) u≤M:=fun u hu=>by
   obtain ⟨i,hi,rfl⟩:=q0il.1 (hU.mem_iff.1 hu);have e:uW (wN P X) (unitAt X i)=sumI (fun k=>decide (uKey X k=uKey X i)) (wN P X) X.length:=q0ic _ _ _
   rw [e];refine ⟨q0hz fun j hj=>(q0iy hW j hj).1,?_⟩
   by_cases hc:cbV X i=⟨#[]⟩
   ·rw [q0kn hi fun k _=>by
     rw [decide_eq_true_eq,q0i5];exact ⟨fun h=>h.elim id fun h=>absurd (h.2.trans hc) h.1,Or.inl⟩]
    exact h2 i hi hc
   ·have hm:cbl P (gK (setPh X R.2) (cbV X i)) ∈ cblV P (setPh X R.2):=by
     rw [q0ks,List.mem_map];refine ⟨cbV X i,q0lj.2 ⟨hc,_,List.getElem_mem (n:=i) (by rw [q0ht];exact hi),?_⟩,rfl⟩
     rw [q0hr X R.2 i (by rw [q0ht];exact hi) hi]
     unfold cbV;rw [List.getD_eq_getElem?_getD,List.getElem?_eq_getElem hi,Option.getD_some]
    refine Int.le_trans (Int.le_of_eq ?_) (h1 _ hm);show _=sumW P (gK (setPh X R.2) (cbV X i))
    unfold sumW gK;rw [q0nw,q0ht];refine q0hw (fun k hk=>?_) (fun k _=>(hwn k).symm)
    rw [Bool.eq_iff_iff,decide_eq_true_eq,decide_eq_true_eq,hcb k hk,q0i5];exact ⟨fun h=>h.elim (fun h=>by rw [h]) fun h=>h.2,fun h=>Or.inr ⟨by rw [h];exact hc,h⟩⟩
  have hev:=heven M hM hu;have p1:=hphv 0 o_
  have p2:=hphv 1 o_
  have p3:=hphv 2 o_
  rw [show ((0:Nat):Int)+1=1 from rfl] at p1
  rw [show ((1:Nat):Int)+1=2 from rfl] at p2
  rw [show ((2:Nat):Int)+1=3 from rfl] at p3
  rw [p1,p2,p3];have q01:=hev 0 1 o_ o_
  have q02:=hev 0 2 o_ o_
  have q10:=hev 1 0 o_ o_
  have q12:=hev 1 2 o_ o_
  have q20:=hev 2 0 o_ o_
  have q21:=hev 2 1 o_ o_
  omega
theorem q0ln {c:Nat} {A:Option Addr} (h:w.ownsRow base e z (.slice A n c) n xs):n≤c∧c≤9223372036854775807:=by
 rcases h.2 with ⟨h1,h2⟩ | ⟨g,cap,cur,h1,_,_,h3,h4,_⟩
 ·injection h1 with _ h5 h6
  subst h6;omega
 ·injection h1 with _ h5 h6
  subst h6;exact ⟨h3,h4⟩
theorem q0lo {B j:Nat} {v:Value} (h:w.ownsRow base e z v n xs) (u:Value) (hne:v.ownBlock≠some B):(w.setCell ⟨B,j,none⟩ u).ownsRow base e z v n xs :=
 ⟨h.1,h.2.imp id fun ⟨g',cap,cur,hv,hg,hc,r⟩=>⟨g',cap,cur,hv,hg,RowAt.far (B:=g') hc j _ (fun e=>hne (by rw [hv,e];rfl)),r⟩⟩
def mxS (P:List PC) (X:List Fx):Int:=X.foldl (fun m x=>if x.cb=⟨#[]⟩ then max m (wattV P x) else m) 0
theorem q0lh (P:List PC) (X:List Fx) (x:Fx):mxS P (X ++ [x])=if x.cb=⟨#[]⟩ then max (mxS P X) (wattV P x) else mxS P X:=by unfold mxS;rw [List.foldl_append];rfl
theorem mxS_le:∀ {X:List Fx},0≤mxS P X∧∀ x ∈ X,x.cb=⟨#[]⟩→wattV P x≤mxS P X:=by
 intro X;refine q0hd (m:=fun X=>0≤mxS P X∧∀ x ∈ X,x.cb=⟨#[]⟩→wattV P x≤mxS P X) ⟨Int.le_refl _,fun x h=>by cases h⟩ (fun X x ih=>?_) X
 rw [q0lh];refine ⟨by split <;> omega,fun y hy hc=>?_⟩
 rcases List.mem_append.1 hy with hy | hy
 ·have:=ih.2 y hy hc
  split <;> omega
 ·rw [List.mem_singleton] at hy
  subst hy;rw [if_pos hc];omega
def mxC (m:Int) (C:List Gl):Int:=C.foldl (fun m x=>max m x.st) m
theorem q0lg (m:Int) (C:List Gl) (x:Gl):mxC m (C ++ [x])=max (mxC m C) x.st:=by unfold mxC;rw [List.foldl_append];rfl
theorem mxC_le {m:Int}:∀ {C:List Gl},m≤mxC m C∧∀ x ∈ C,x.st≤mxC m C:=by
 intro C;refine q0hd (m:=fun C=>m≤mxC m C∧∀ x ∈ C,x.st≤mxC m C) ⟨Int.le_refl _,fun x h=>by cases h⟩ (fun C x ih=>?_) C
 rw [q0lg];refine ⟨o_,fun y hy=>?_⟩
 rcases List.mem_append.1 hy with hy | hy
 ·have:=ih.2 y hy;omega
 ·rw [List.mem_singleton] at hy
  subst hy;omega
theorem Sprd.mem (h:Sprd P X Y) (hy:y ∈ Y):∃ x ∈ X,∃ v,1≤v∧v≤3∧y = { x with ph:=v }:=by
 obtain ⟨i,hi,rfl⟩:=List.getElem_of_mem hy;have h1:i<X.length:=by rw [h.len] at hi;exact hi
 obtain ⟨v,v1,v3,e⟩:=h.at_ i h1
 rw [List.getD_eq_getElem?_getD,List.getElem?_eq_getElem hi,Option.getD_some,List.getD_eq_getElem?_getD,List.getElem?_eq_getElem h1,Option.getD_some] at e;exact ⟨_,List.getElem_mem h1,v,v1,v3,e⟩
theorem q0nr {A0:Option Addr} {n0 d0:Nat} {A1:Option Addr} {n1 d1:Nat} {A2 A3:Option Addr} {d2 d3:Nat} {H:List Hd} (hg:RG.Is w ⟨A0,n0,d0,A1,n1,d1,A2,X.length,d2⟩ H L PL X) (h:rg59 L PL X=true)
  (hs:Sprd (PL.map Prod.fst) X Y) (hy:shX.In w A3 Y.length Y) (h3:Y.length≤d3) (h4:d3≤9223372036854775807):Right59 w A0 n0 d0 A1 n1 d1 A3 d3 (PL.map Prod.fst) Y:=by
 unfold rg59 at h;rw [Bool.and_eq_true,decide_eq_true_eq] at h;obtain ⟨hfr,hu⟩:=h;obtain ⟨⟨hl0,hm,hn0⟩,⟨hp,hpo,hnd1,hd1⟩,hx,⟨hnd2,hd2⟩,hcb⟩:=hg;dsimp only at hl0 hn0 hp hnd1 hd1 hx hnd2 hd2;have hn1l:n1=PL.length:=by have:=hp.1.1;simpa using this
 have hfw:=q7x hfr;have hn1:n1≤9223372036854775806:=by have:=hfw.1;omega
 have hpf:=hp.few hfr;obtain ⟨h1,h2,_⟩:=q0kq hu;refine ⟨fun w' hb=>?_,hpf.1,hn1,hy,by rw [hs.len];exact h2,fun y hy=>?_,fun y hy=>?_⟩
 ·rw [← hs.uni L PL rfl hu]
  refine qtm A0 n0 d0 H L A1 n1 d1 PL A3 Y.length d3 Y w' (hl0.below hb) hm (hpf.below hb) hn1 (hy.below hb) h3 h4 fun y hy=>?_
  obtain ⟨x,hx,v,_,_,rfl⟩:=hs.mem hy;exact hcb x hx
 ·obtain ⟨x,hx,v,_,_,rfl⟩:=hs.mem hy
  exact h1 x hx
 ·obtain ⟨x,hx,v,v1,v3,rfl⟩:=hs.mem hy
  exact ⟨v1,v3⟩
theorem q0lq (w:World) (g:RG) (H:List Hd) (L:List (List PT)) (PL:List (PC × List Fea)) (X:List Fx) (hg:g.Is w H L PL X) (ht:Tab w) (hr:Rng w) :
  Calls Tryz.prog 5 #[.agg g.cs.toArray] w fun e w'=>e=.returned (.bool true)∧Below w.heap.size w w':=by
 obtain ⟨A0,n0,d0,A1,n1,d1,A2,n2,d2⟩:=g;show Calls Tryz.prog 5 #[.agg #[.slice A0 n0 d0,.slice A1 n1 d1,.slice A2 n2 d2]] w fun e w'=>e=.returned (.bool true)∧Below w.heap.size w w'
 obtain rfl:n2=X.length:=hg.2.2.1.1;have HAw:=hj_ (fun w ht hr=>q0eb w ht hr)
 have HOw:=hj_ (fun w=>q0j6 A0 n0 d0 A1 n1 d1 A2 X.length d2 w)
 have HRt:=hj_ (fun w h=>q0lf A0 n0 d0 A1 n1 d1 A2 X.length d2 H L PL X w h)
 obtain ⟨W,HW,HB0,HK⟩:=bx3 w (.slice A0 n0 d0) (.slice A1 n1 d1) (.slice A2 X.length d2) 26;have hB:=Below.refl W.heap.size W;obtain ⟨c0,c1,c2⟩:=HK.out W hB;have HG:=hj_ (hg.below HB0.out);have HT:=hj_ (ht.below HB0.out);have HRg:=hj_ (hr.below HB0.out);have HG0:=hj_ hg;have HT0:=hj_ ht;have HRg0:=hj_ hr;have HCr:=hj_ (show Cells W w.heap.size [.slice A0 n0 d0,.slice A1 n1 d1,.slice A2 X.length d2] by rw [HW.out];exact Cells.fresh w [.slice A0 n0 d0,.slice A1 n1 d1,.slice A2 X.length d2] _)
 have HFin:=hj_ (fun (w':World) (h:Below W.heap.size W w')=>ht_ HB0.out h)
 clear hg ht hr
 cases hrg:rg59 L PL X with
 | false =>
  rw [hrg] at HRt;clear hrg
  go_enter Tryz.func5,Tryz.ntmps5
  go_wp2_with fail;rw [← HW.out];go_wp2_with fail;refine uq_ (HRt.out _ HG.out) hB fun w1 hB=>?_;go_wp2_with fail;refine uq_ (HAw.out _ (HT.out.below hB) (HRg.out.below hB)) hB fun w2 hB=>?_;go_wp2_with fail;go_ret;exact ⟨rfl,HFin.out _ hB⟩
 | true =>
 rw [hrg] at HRt;have HRi:=hj_ (q0nq HG.out hrg);have HRy:=hj_ (fun (w':World) (hb:Below w.heap.size w w') (Y:List Fx) (hs:Sprd (PL.map Prod.fst) X Y) (A3:Option Addr) (d3:Nat) (hy:shX.In w' A3 Y.length Y) (h3:Y.length≤d3∧d3≤9223372036854775807)=>q0nr (HG0.out.below hb) hrg hs hy h3.1 h3.2)
 clear hrg;generalize hPP:PL.map Prod.fst=P at *;clear hPP;have HSp:=hj_ (fun w' (hb:Below W.heap.size W w')=>q0i9 A0 n0 d0 A1 n1 d1 A2 d2 P X w' (HRi.out.below hb).ck (HRi.out.below hb).hp HRi.out.hn1 (HRi.out.below hb).hx HRi.out.hX HRi.out.hW)
 have HFu:=hj_ (fun w' (hb:Below W.heap.size W w')=>q0i4 A0 n0 d0 A1 n1 d1 A2 X.length d2 P X w' (HRi.out.below hb).ck (HRi.out.below hb).hp HRi.out.hn1 (HRi.out.below hb).hx (oh_ HRi.out.hX) HRi.out.hW HRi.out.hph)
 have hbd:=And.intro (q0g8 HRi.out.hW 1) (And.intro (q0g8 HRi.out.hW 2) (q0g8 HRi.out.hW 3));have hX:=HRi.out.hX;have HSum:=hj_ (q0lt (P:=P) HRi.out.hph);have w12:IntKind.i64.wrap (phaseV P X 1+phaseV P X 2)=phaseV P X 1+phaseV P X 2:=IntWalk.i64_in _ o_
 have w123:IntKind.i64.wrap (phaseV P X 1+phaseV P X 2+phaseV P X 3)=phaseV P X 1+phaseV P X 2+phaseV P X 3:=IntWalk.i64_in _ o_
 clear hbd hX;generalize phaseV P X 1=s1 at *;generalize phaseV P X 2=s2 at *;generalize phaseV P X 3=s3 at *
 go_enter Tryz.func5,Tryz.ntmps5
 go_wp2_with fail;rw [← HW.out];go_wp2_with fail;refine uq_ (HRt.out _ HG.out) hB ?_;clear hB c0 c1 c2;intro w1 hB;obtain ⟨c0,c1,c2⟩:=HK.out _ hB;go_wp2_with fail;refine (HSp.out _ hB).mono ?_;rintro e w2 ⟨U,r,rfl,hU,_,A3,d3,rfl,hown,hb⟩;have hsl:=q0o4 hU HRi.out.hW;have hlen:=q0ht X (runU (wN P X) (phX X) U).2;generalize setPh X (runU (wN P X) (phX X) U).2=Y at *;have HCap:=hj_ (q0ln hown);have HY:=hj_ (Sh.In.of_own (S:=shX) hown rfl);have HOwn:=hj_ (q0g4 hown (base':=W.heap.size) hB.size);have HSl:=hj_ hsl;have HLen:=hj_ hlen;have HB2:=hj_ (ht_ hB hb);have HX2:=hj_ (HRi.out.below HB2.out).hx;have HX64:=hj_ HRi.out.hX;rw [hlen];have HWl:=hj_ (show w.heap.size<W.heap.size by rw [HW.out];simp)
 have HFz:=hj_ (show ∀ w',Below W.heap.size W w'→w'.frozen? ⟨w.heap.size,2,none⟩=false from fun w' h=>(h.frozen (p:=⟨w.heap.size,2,none⟩) HWl.out).trans (by rw [HW.out];exact World.frozen?_alloc_at _ _ _ _ s_))
 have HWat:=hj_ (fun (x:Fx) (p:PC) (w':World) (hb:Below w2.heap.size w2 w') (h:pcF P x.pr=some p)=>q0km A0 n0 d0 A1 n1 d1 A2 X.length d2 P x p w' ((HRi.out.below HB2.out).hp.below hb) HRi.out.hn1 h)
 have HWk:=hj_ HRi.out.hW;clear hb c0 c1 c2 hU hown hsl hlen hB;obtain ⟨c0,c1,c2⟩:=HK.out _ HB2.out;go_wp2_with fail;clear c0 c1 c2
 go_loopw [5,38] (fun sv iv wr=>∃ k:Nat,k≤X.length∧iv=.int .i64 k∧sv=.int .i64 (mxS P (X.take k))∧Below w2.heap.size w2 wr) (fun _ iv _=>X.length-(intOf iv).toNat)
 case atStart=>exact ⟨0,Nat.zero_le _,rfl,rfl,br_⟩
 case round =>
  obtain ⟨k,hk,rfl,rfl,hB⟩:=hrel
  by_cases hlt:k<X.length
  case pos =>
   have hltY:k<Y.length:=by rw [HLen.out];exact hlt
   obtain ⟨b,o,rfl,hbl,hcell⟩:=fx_at HY.out o_
   obtain ⟨b2,o2,rfl,hbl2,hcell2⟩:=fx_at HX2.out o_
   have hk7:=hcell k hltY;have hx7:=hcell2 k hlt;obtain ⟨v,hv1,hv3,hyx⟩:=HSl.out.at_ k hlt
   rw [List.getD_eq_getElem?_getD,List.getElem?_eq_getElem hltY,Option.getD_some,List.getD_eq_getElem?_getD,List.getElem?_eq_getElem hlt,Option.getD_some] at hyx;rw [hyx] at hk7;have hmp:=q0lh P (X.take k) X[k];rw [← List.take_succ_eq_append_getElem hlt] at hmp;obtain ⟨p,hpc,hw0,hw1⟩:=HWk.out X[k] (List.getElem_mem hlt);have hwx:=fun w' hb=>HWat.out X[k] p w' hb hpc
   rw [q0iz hpc] at hmp;have kk:=fun (q:Nat)=>hB.cell (p:=⟨b,q,none⟩) hbl
   have hbw:b<wr.heap.size:=Nat.lt_of_lt_of_le hbl hB.size;have i0:(0:Int)≤(k:Int):=o_
   have i1:(k:Int)<(X.length:Int):=o_
   have w0:IntKind.i64.wrap ((k:Int)+1)=(k:Int)+1:=IntWalk.i64_in _ (oh_ HX64.out)
   have HLt:=hj_ hlt;have HPu:=hj_ hmp;clear hcell hcell2 hmp hpc hw0 hw1 hyx hltY;generalize X[k]=x at *;generalize mxS P (X.take k)=m0 at *;obtain ⟨ch,pt,pr,un,ad,ph,cb⟩:=x;obtain ⟨ps,pf,pw,pA,pn,pc⟩:=p;dsimp only at hk7 hx7 HPu;have HXc:=hj_ (fun (w':World) (h:Below w2.heap.size w2 w')=>And.intro ((h.cell (p:=⟨b2,o2+k*7,none⟩) hbl2).trans hx7.1) (And.intro ((h.cell (p:=⟨b2,o2+k*7+1,none⟩) hbl2).trans hx7.2.1) (And.intro ((h.cell (p:=⟨b2,o2+k*7+2,none⟩) hbl2).trans hx7.2.2.1) (And.intro ((h.cell (p:=⟨b2,o2+k*7+3,none⟩) hbl2).trans hx7.2.2.2.1) (And.intro ((h.cell (p:=⟨b2,o2+k*7+4,none⟩) hbl2).trans hx7.2.2.2.2.1) (And.intro ((h.cell (p:=⟨b2,o2+k*7+5,none⟩) hbl2).trans hx7.2.2.2.2.2.1) ((h.cell (p:=⟨b2,o2+k*7+6,none⟩) hbl2).trans hx7.2.2.2.2.2.2)))))))
   obtain ⟨k0,k1,k2,k3,k4,k5,k6⟩:=hk7;have p0:=(kk _).trans k0;have p1:=(kk _).trans k1;have p2:=(kk _).trans k2;have p3:=(kk _).trans k3;have p4:=(kk _).trans k4;have p5:=(kk _).trans k5;have p6:=(kk _).trans k6;have HWx:=hj_ (show ∀ w',Below w2.heap.size w2 w'→Calls Tryz.prog 16 #[.agg #[.slice A0 n0 d0,.slice A1 n1 d1,.slice (some ⟨b2,o2,none⟩) X.length d2],.agg #[.int .i64 ch,.int .i64 pt,.string pr,.int .i64 un,.int .i64 ad,.int .i64 ph,.string cb]] w' fun e w''=>e=.returned (.int .i64 pw)∧Below w'.heap.size w' w'' from hwx)
   obtain ⟨W6,hW6⟩:=ex_ (wr.alloc (.cells #[.int .i64 ch,.int .i64 pt,.string pr,.int .i64 un,.int .i64 ad,.int .i64 v,.string cb] 45));have hb6:Below wr.heap.size wr W6:=by rw [hW6];exact (br_).alloc lr_ _
   have HQ6:=hj_ (show Cells W6 wr.heap.size [.int .i64 ch,.int .i64 pt,.string pr,.int .i64 un,.int .i64 ad,.int .i64 v,.string cb] by rw [hW6];exact Cells.fresh wr [.int .i64 ch,.int .i64 pt,.string pr,.int .i64 un,.int .i64 ad,.int .i64 v,.string cb] _)
   have HB6:=hj_ (ht_ hB hb6);have HW6:=hj_ hW6;have HBl:=hj_ hbl2;have HLe:=hj_ hB.size;have HNe:=hj_ (show wr.heap.size≠w.heap.size∧wr.heap.size≠b2 from ⟨by have:=HWl.out;have:=HB2.out.size;have:=hB.size;omega,by have:=hB.size;omega⟩)
   have y0:=HQ6.out.at_ (j:=0) rfl
   have y5:=HQ6.out.at_ (j:=5) rfl
   have y6:=HQ6.out.at_ (j:=6) rfl
   have ly:=HQ6.out.1;have g1:¬ v<1:=o_
   have g2:¬ 3<v:=o_
   obtain ⟨c0,c1,c2⟩:=HK.out _ (ht_ HB2.out HB6.out);obtain ⟨r0,r1,r2,r3,r4,r5,r6⟩:=HXc.out _ HB6.out;have hwl6:w.heap.size<W6.heap.size:=Nat.lt_of_lt_of_le HWl.out (ht_ HB2.out HB6.out).size;have hbq:=q1w cb ⟨#[]⟩;clear hb6 hW6 hwx k0 k1 k2 k3 k4 k5 k6 kk hx7 hbl2 hB
   by_cases hn:cb=⟨#[]⟩
   ·subst hn
    rw [decide_eq_true rfl] at hbq;have HPv:=hj_ (HPu.out.trans (if_pos rfl));clear HPu;go_wp2_with fail;rw [← HW6.out];clear p0 p1 p2 p3 p4 p5 p6 hbw;refine wp_region_held_drew (S:=fun w'=>w'.cell? ⟨w.heap.size,0,none⟩=some (.slice A0 n0 d0)∧w'.cell? ⟨w.heap.size,1,none⟩=some (.slice A1 n1 d1)∧w'.cell? ⟨w.heap.size,2,none⟩=some (.slice (some ⟨b2,o2,none⟩) X.length d2)∧w'.cell? ⟨b2,o2+k*7,none⟩=some (.int .i64 ch)∧w'.cell? ⟨b2,o2+k*7+1,none⟩=some (.int .i64 pt)∧w'.cell? ⟨b2,o2+k*7+2,none⟩=some (.string pr)∧w'.cell? ⟨b2,o2+k*7+3,none⟩=some (.int .i64 un)∧w'.cell? ⟨b2,o2+k*7+4,none⟩=some (.int .i64 ad)∧w'.cell? ⟨b2,o2+k*7+5,none⟩=some (.int .i64 ph)∧w'.cell? ⟨b2,o2+k*7+6,none⟩=some (.string ⟨#[]⟩)) k_ (by first | exact ⟨c0,c1,c2,r0,r1,r2,r3,r4,r5,r6⟩) (fun hHeld=>?_)
    refine tq 0 ?_;refine tq 1 ?_;refine tq 3 ?_;refine tq 4 ?_;refine tq 5 ?_;refine tq 6 ?_;refine tq 7 ?_;refine wpAnyH_ready (rs:=[2]) k_ s_ ?_
    refine AllReadyH.cons rfl (fun K hK=>?_) AllReadyH.nil
    go_simp
    go_at_call 11;refine (HOw.out _).mono ?_;rintro e w7 ⟨rfl,hb⟩;have hb7:=(q18 (Below.refl W6.heap.size W6) 1).trans (hb.mono (q18 (Below.refl W6.heap.size W6) 1).size);have HB7:=hj_ (ht_ HB6.out hb7);have HQ7:=hj_ (HQ6.out.below hb7 HQ6.out.1);clear c0 c1 c2 r0 r1 r2 r3 r4 r5 r6;obtain ⟨c0,c1,c2⟩:=HK.out _ (ht_ HB2.out HB7.out);obtain ⟨r0,r1,r2,r3,r4,r5,r6⟩:=HXc.out _ HB7.out;clear hb hb7
    go_wp2_with fail;refine hK.out _ _ (by first | exact ⟨c0,c1,c2,r0,r1,r2,r3,r4,r5,r6⟩) (fun hHeld=>?_)
    clear hK K
    try simp only [Act.put,List.setIfInBounds_toArray,List.set_cons_zero,List.set_cons_succ]
    refine wpAnyH_ready (rs:=[8]) k_ s_ ?_
    refine AllReadyH.cons rfl (fun K hK=>?_) AllReadyH.nil
    go_simp
    go_at_call 16;refine (HWx.out _ HB7.out).mono ?_;rintro e w8 ⟨rfl,hb⟩;have hb7:=hb;have HB8:=hj_ (ht_ HB7.out hb7);have HQ8:=hj_ (HQ7.out.below hb7 HQ7.out.1);clear c0 c1 c2 r0 r1 r2 r3 r4 r5 r6;obtain ⟨c0,c1,c2⟩:=HK.out _ (ht_ HB2.out HB8.out);obtain ⟨r0,r1,r2,r3,r4,r5,r6⟩:=HXc.out _ HB8.out;clear hb hb7
    go_wp2_with fail;refine hK.out _ _ (by first | exact ⟨c0,c1,c2,r0,r1,r2,r3,r4,r5,r6⟩) (fun hHeld=>?_)
    clear hK K
    try simp only [Act.put,List.setIfInBounds_toArray,List.set_cons_zero,List.set_cons_succ]
    refine tq 9 ?_;refine tq 10 ?_;refine wpAnyH_done k_ ?_ _
    go_upto_region 14 with fail
    clear y0 y5 y6 ly g1 g2;clear c0 c1 c2 r0 r1 r2 r3 r4 r5 r6;obtain ⟨c0,c1,c2⟩:=HK.out _ (ht_ HB2.out HB8.out);obtain ⟨r0,r1,r2,r3,r4,r5,r6⟩:=HXc.out _ HB8.out;have z5:=HQ8.out.fr (j:=5) rfl;have y5:=HQ8.out.at_ (j:=5) rfl
    have lq:=HQ8.out.1;have hb2l:=Nat.lt_of_lt_of_le HBl.out HB8.out.size;have hwl:=Nat.lt_of_lt_of_le HWl.out (ht_ HB2.out HB8.out).size;have HQ9:=hj_ (HQ8.out.set 5 (.int .i64 ph) s_)
    have e1:wr.heap.size≠w.heap.size:=HNe.out.1;have e2:wr.heap.size≠b2:=HNe.out.2;have HV9:=hj_ (show (w8.setCell ⟨wr.heap.size,5,none⟩ (.int .i64 ph)).cell? ⟨w.heap.size,0,none⟩=some (.slice A0 n0 d0)∧(w8.setCell ⟨wr.heap.size,5,none⟩ (.int .i64 ph)).cell? ⟨w.heap.size,1,none⟩=some (.slice A1 n1 d1)∧(w8.setCell ⟨wr.heap.size,5,none⟩ (.int .i64 ph)).cell? ⟨w.heap.size,2,none⟩=some (.slice (some ⟨b2,o2,none⟩) X.length d2) from ⟨(sf_ e1).trans c0,(sf_ e1).trans c1,(sf_ e1).trans c2⟩)
    have HV8:=hj_ (show (w8.setCell ⟨wr.heap.size,5,none⟩ (.int .i64 ph)).cell? ⟨b2,o2+k*7,none⟩=some (.int .i64 ch)∧(w8.setCell ⟨wr.heap.size,5,none⟩ (.int .i64 ph)).cell? ⟨b2,o2+k*7+1,none⟩=some (.int .i64 pt)∧(w8.setCell ⟨wr.heap.size,5,none⟩ (.int .i64 ph)).cell? ⟨b2,o2+k*7+2,none⟩=some (.string pr)∧(w8.setCell ⟨wr.heap.size,5,none⟩ (.int .i64 ph)).cell? ⟨b2,o2+k*7+3,none⟩=some (.int .i64 un)∧(w8.setCell ⟨wr.heap.size,5,none⟩ (.int .i64 ph)).cell? ⟨b2,o2+k*7+4,none⟩=some (.int .i64 ad)∧(w8.setCell ⟨wr.heap.size,5,none⟩ (.int .i64 ph)).cell? ⟨b2,o2+k*7+5,none⟩=some (.int .i64 ph)∧(w8.setCell ⟨wr.heap.size,5,none⟩ (.int .i64 ph)).cell? ⟨b2,o2+k*7+6,none⟩=some (.string ⟨#[]⟩) from ⟨(sf_ e2).trans r0,(sf_ e2).trans r1,(sf_ e2).trans r2,(sf_ e2).trans r3,(sf_ e2).trans r4,(sf_ e2).trans r5,(sf_ e2).trans r6⟩)
    have HB9:=hj_ (HB8.out.setCell (p:=⟨wr.heap.size,5,none⟩) HLe.out (.int .i64 ph))
    go_upto_region 15 with fail
    clear c0 c1 c2 r0 r1 r2 r3 r4 r5 r6 y5 z5;obtain ⟨c0,c1,c2⟩:=HV9.out;obtain ⟨r0,r1,r2,r3,r4,r5,r6⟩:=HV8.out;have y0:=HQ9.out.at_ (j:=0) rfl
    have y1:=HQ9.out.at_ (j:=1) rfl
    have y2:=HQ9.out.at_ (j:=2) rfl
    have y3:=HQ9.out.at_ (j:=3) rfl
    have y4:=HQ9.out.at_ (j:=4) rfl
    have y5:=HQ9.out.at_ (j:=5) rfl
    have y6:=HQ9.out.at_ (j:=6) rfl
    obtain ⟨V9,hV9⟩:=ex_ (w8.setCell ⟨wr.heap.size,5,none⟩ (.int .i64 ph));rw [← hV9] at c0 c1 c2 r0 r1 r2 r3 r4 r5 r6 y0 y1 y2 y3 y4 y5 y6 HB9 ⊢;clear HV9 HV8 HQ9 hV9 lq hb2l hwl e1 e2;refine wp_region_held_drew (S:=fun w'=>w'.cell? ⟨w.heap.size,0,none⟩=some (.slice A0 n0 d0)∧w'.cell? ⟨w.heap.size,1,none⟩=some (.slice A1 n1 d1)∧w'.cell? ⟨w.heap.size,2,none⟩=some (.slice (some ⟨b2,o2,none⟩) X.length d2)∧w'.cell? ⟨b2,o2+k*7,none⟩=some (.int .i64 ch)∧w'.cell? ⟨b2,o2+k*7+1,none⟩=some (.int .i64 pt)∧w'.cell? ⟨b2,o2+k*7+2,none⟩=some (.string pr)∧w'.cell? ⟨b2,o2+k*7+3,none⟩=some (.int .i64 un)∧w'.cell? ⟨b2,o2+k*7+4,none⟩=some (.int .i64 ad)∧w'.cell? ⟨b2,o2+k*7+5,none⟩=some (.int .i64 ph)∧w'.cell? ⟨b2,o2+k*7+6,none⟩=some (.string ⟨#[]⟩)∧w'.cell? ⟨wr.heap.size,0,none⟩=some (.int .i64 ch)∧w'.cell? ⟨wr.heap.size,1,none⟩=some (.int .i64 pt)∧w'.cell? ⟨wr.heap.size,2,none⟩=some (.string pr)∧w'.cell? ⟨wr.heap.size,3,none⟩=some (.int .i64 un)∧w'.cell? ⟨wr.heap.size,4,none⟩=some (.int .i64 ad)∧w'.cell? ⟨wr.heap.size,5,none⟩=some (.int .i64 ph)∧w'.cell? ⟨wr.heap.size,6,none⟩=some (.string ⟨#[]⟩)) k_ (by first | exact ⟨c0,c1,c2,r0,r1,r2,r3,r4,r5,r6,y0,y1,y2,y3,y4,y5,y6⟩) (fun hHeld=>?_)
    refine tq 0 ?_;refine tq 1 ?_;refine tq 2 ?_;refine tq 3 ?_;refine tq 4 ?_;refine tq 5 ?_;refine tq 6 ?_;refine wpAnyH_done k_ ?_ _
    clear c0 c1 c2 r0 r1 r2 r3 r4 r5 r6 y0 y1 y2 y3 y4 y5 y6;go_wp2_with fail
    go_roundw
    case rel=>exact ⟨k+1,HLt.out,by go_num,by rw [HPv.out],HB9.out.drew⟩
    case measure=>have:=HLt.out;simp [intOf];omega
   ·rw [decide_eq_false hn] at hbq
    have hce:cb.toList.isEmpty=false:=by
     rw [ByteArray.toList_eq]
     cases h:cb.data.toList with
     | nil=>exact absurd (ByteArray.ext (Array.ext' h)) hn
     | cons a l=>rfl
    have HPv:=hj_ (HPu.out.trans (if_neg hn));clear HPu hn
    go_upto_region 10 with fail
    rw [← HW6.out];clear p0 p1 p2 p3 p4 p5 p6 hbw
    go_upto_region 14 with fail
    clear y0 y5 y6 ly g1 g2;clear c0 c1 c2 r0 r1 r2 r3 r4 r5 r6;obtain ⟨c0,c1,c2⟩:=HK.out _ (ht_ HB2.out HB6.out);obtain ⟨r0,r1,r2,r3,r4,r5,r6⟩:=HXc.out _ HB6.out;have z5:=HQ6.out.fr (j:=5) rfl;have y5:=HQ6.out.at_ (j:=5) rfl
    have lq:=HQ6.out.1;have hb2l:=Nat.lt_of_lt_of_le HBl.out HB6.out.size;have hwl:=Nat.lt_of_lt_of_le HWl.out (ht_ HB2.out HB6.out).size;have HQ9:=hj_ (HQ6.out.set 5 (.int .i64 ph) s_)
    have e1:wr.heap.size≠w.heap.size:=HNe.out.1;have e2:wr.heap.size≠b2:=HNe.out.2;have HV9:=hj_ (show (W6.setCell ⟨wr.heap.size,5,none⟩ (.int .i64 ph)).cell? ⟨w.heap.size,0,none⟩=some (.slice A0 n0 d0)∧(W6.setCell ⟨wr.heap.size,5,none⟩ (.int .i64 ph)).cell? ⟨w.heap.size,1,none⟩=some (.slice A1 n1 d1)∧(W6.setCell ⟨wr.heap.size,5,none⟩ (.int .i64 ph)).cell? ⟨w.heap.size,2,none⟩=some (.slice (some ⟨b2,o2,none⟩) X.length d2) from ⟨(sf_ e1).trans c0,(sf_ e1).trans c1,(sf_ e1).trans c2⟩)
    have HV8:=hj_ (show (W6.setCell ⟨wr.heap.size,5,none⟩ (.int .i64 ph)).cell? ⟨b2,o2+k*7,none⟩=some (.int .i64 ch)∧(W6.setCell ⟨wr.heap.size,5,none⟩ (.int .i64 ph)).cell? ⟨b2,o2+k*7+1,none⟩=some (.int .i64 pt)∧(W6.setCell ⟨wr.heap.size,5,none⟩ (.int .i64 ph)).cell? ⟨b2,o2+k*7+2,none⟩=some (.string pr)∧(W6.setCell ⟨wr.heap.size,5,none⟩ (.int .i64 ph)).cell? ⟨b2,o2+k*7+3,none⟩=some (.int .i64 un)∧(W6.setCell ⟨wr.heap.size,5,none⟩ (.int .i64 ph)).cell? ⟨b2,o2+k*7+4,none⟩=some (.int .i64 ad)∧(W6.setCell ⟨wr.heap.size,5,none⟩ (.int .i64 ph)).cell? ⟨b2,o2+k*7+5,none⟩=some (.int .i64 ph)∧(W6.setCell ⟨wr.heap.size,5,none⟩ (.int .i64 ph)).cell? ⟨b2,o2+k*7+6,none⟩=some (.string cb) from ⟨(sf_ e2).trans r0,(sf_ e2).trans r1,(sf_ e2).trans r2,(sf_ e2).trans r3,(sf_ e2).trans r4,(sf_ e2).trans r5,(sf_ e2).trans r6⟩)
    have HB9:=hj_ (HB6.out.setCell (p:=⟨wr.heap.size,5,none⟩) HLe.out (.int .i64 ph))
    go_upto_region 15 with fail
    clear c0 c1 c2 r0 r1 r2 r3 r4 r5 r6 y5 z5;obtain ⟨c0,c1,c2⟩:=HV9.out;obtain ⟨r0,r1,r2,r3,r4,r5,r6⟩:=HV8.out;have y0:=HQ9.out.at_ (j:=0) rfl
    have y1:=HQ9.out.at_ (j:=1) rfl
    have y2:=HQ9.out.at_ (j:=2) rfl
    have y3:=HQ9.out.at_ (j:=3) rfl
    have y4:=HQ9.out.at_ (j:=4) rfl
    have y5:=HQ9.out.at_ (j:=5) rfl
    have y6:=HQ9.out.at_ (j:=6) rfl
    obtain ⟨V9,hV9⟩:=ex_ (W6.setCell ⟨wr.heap.size,5,none⟩ (.int .i64 ph));rw [← hV9] at c0 c1 c2 r0 r1 r2 r3 r4 r5 r6 y0 y1 y2 y3 y4 y5 y6 HB9 ⊢;clear HV9 HV8 HQ9 hV9 lq hb2l hwl e1 e2;refine wp_region_held_drew (S:=fun w'=>w'.cell? ⟨w.heap.size,0,none⟩=some (.slice A0 n0 d0)∧w'.cell? ⟨w.heap.size,1,none⟩=some (.slice A1 n1 d1)∧w'.cell? ⟨w.heap.size,2,none⟩=some (.slice (some ⟨b2,o2,none⟩) X.length d2)∧w'.cell? ⟨b2,o2+k*7,none⟩=some (.int .i64 ch)∧w'.cell? ⟨b2,o2+k*7+1,none⟩=some (.int .i64 pt)∧w'.cell? ⟨b2,o2+k*7+2,none⟩=some (.string pr)∧w'.cell? ⟨b2,o2+k*7+3,none⟩=some (.int .i64 un)∧w'.cell? ⟨b2,o2+k*7+4,none⟩=some (.int .i64 ad)∧w'.cell? ⟨b2,o2+k*7+5,none⟩=some (.int .i64 ph)∧w'.cell? ⟨b2,o2+k*7+6,none⟩=some (.string cb)∧w'.cell? ⟨wr.heap.size,0,none⟩=some (.int .i64 ch)∧w'.cell? ⟨wr.heap.size,1,none⟩=some (.int .i64 pt)∧w'.cell? ⟨wr.heap.size,2,none⟩=some (.string pr)∧w'.cell? ⟨wr.heap.size,3,none⟩=some (.int .i64 un)∧w'.cell? ⟨wr.heap.size,4,none⟩=some (.int .i64 ad)∧w'.cell? ⟨wr.heap.size,5,none⟩=some (.int .i64 ph)∧w'.cell? ⟨wr.heap.size,6,none⟩=some (.string cb)) k_ (by first | exact ⟨c0,c1,c2,r0,r1,r2,r3,r4,r5,r6,y0,y1,y2,y3,y4,y5,y6⟩) (fun hHeld=>?_)
    refine tq 0 ?_;refine tq 1 ?_;refine tq 2 ?_;refine tq 3 ?_;refine tq 4 ?_;refine tq 5 ?_;refine tq 6 ?_;refine wpAnyH_done k_ ?_ _
    clear c0 c1 c2 r0 r1 r2 r3 r4 r5 r6 y0 y1 y2 y3 y4 y5 y6;go_wp2_with fail
    go_roundw
    case rel=>exact ⟨k+1,HLt.out,by go_num,by rw [HPv.out],HB9.out.drew⟩
    case measure=>have:=HLt.out;simp [intOf];omega
  case neg =>
   obtain rfl:k=X.length:=o_
   rw [List.take_length];have HM:=hj_ (mxS_le (P:=P) (X:=X));have HBV:=hj_ (ht_ HB2.out hB);have HOV:=hj_ (q0g2 HOwn.out fun b hq=>hB.block b (q0g1 HOwn.out hq).2.1)
   obtain ⟨V,hV⟩:=ex_ wr;subst hV;obtain ⟨c0,c1,c2⟩:=HK.out _ HBV.out;clear hB;generalize hm0:mxS P X=m0 at *;clear hm0;go_wp2_with fail;refine (HFu.out _ HBV.out).mono ?_;rintro e w3 ⟨rfl,hb⟩;have HB3:=hj_ (ht_ HBV.out hb);have HO3:=hj_ (q0g2 HOV.out fun b hq=>hb.block b (q0g1 HOV.out hq).2.1)
   clear hb c0 c1 c2;obtain ⟨c0,c1,c2⟩:=HK.out _ HB3.out;have z2:=HFz.out _ HB3.out;have hwl3:=Nat.lt_of_lt_of_le HWl.out HB3.out.size;obtain ⟨W4,hW4⟩:=ex_ ((w3.setCell ⟨w.heap.size,2,none⟩ (.slice A3 X.length d3)).alloc (.cells #[.int .i64 s1,.int .i64 s2,.int .i64 s3] 47));have hB4:Below w.heap.size w W4:=by
    rw [hW4];have h:=(ht_ HB0.out HB3.out).setCell (p:=⟨w.heap.size,2,none⟩) lr_ (.slice A3 X.length d3);exact h.alloc h.size _
   have hx4:Cells W4 w3.heap.size [.int .i64 s1,.int .i64 s2,.int .i64 s3]:=by
    rw [hW4];have h:=Cells.fresh (w3.setCell ⟨w.heap.size,2,none⟩ (.slice A3 X.length d3)) [.int .i64 s1,.int .i64 s2,.int .i64 s3] 47
    rwa [World.size_setCell] at h
   have hr4:Cells W4 w.heap.size [.slice A0 n0 d0,.slice A1 n1 d1,.slice A3 X.length d3]:=by
    have h:=(HCr.out.below HB3.out HWl.out).set 2 (.slice A3 X.length d3) s_
    rw [hW4];exact h.below ((br_).alloc lr_ _) h.1
   have ho4:W4.ownsRow W.heap.size 45 7 (.slice A3 Y.length d3) Y.length (shX.vs Y):=by
    rw [hW4];exact (q0lo HO3.out _ (fun e=>by have:=(q0g1 HO3.out e).1;have:=HWl.out;omega)).alloc _
   have HRY:=hj_ (HRy.out _ hB4 Y HSl.out A3 d3 (Sh.In.of_own ho4 rfl) HCap.out);have HFY:=hj_ (fun w' (hb:Below W4.heap.size W4 w')=>q0i4 A0 n0 d0 A1 n1 d1 A3 Y.length d3 P Y w' (HRY.out.below hb).ck (HRY.out.below hb).hp HRY.out.hn1 (HRY.out.below hb).hx (oh_ HRY.out.hX) HRY.out.hW HRY.out.hph)
   have HCY:=hj_ (fun w' (hb:Below W4.heap.size W4 w')=>q0oa A0 n0 d0 A1 n1 d1 A3 d3 P Y w' (HRY.out.below hb).ck (HRY.out.below hb).hp HRY.out.hn1 (HRY.out.below hb).hx (oh_ HRY.out.hX) HRY.out.hW)
   have HUY:=hj_ (fun w' (hb:Below W4.heap.size W4 w')=>q0ia A0 n0 d0 A1 n1 d1 A3 Y.length d3 P Y w' (HRY.out.below hb).ck (HRY.out.below hb).hp HRY.out.hn1 (HRY.out.below hb).hx (oh_ HRY.out.hX) HRY.out.hW HRY.out.hph)
   rw [HLen.out] at HFY HCY HUY;have hbd:=And.intro (q0g8 HRY.out.hW 1) (And.intro (q0g8 HRY.out.hW 2) (q0g8 HRY.out.hW 3));have hX:=HRY.out.hX;have HEv:=hj_ HSl.out.even;have htot:=(q0lt (P:=P) HRY.out.hph).trans (HSl.out.sum.trans HSum.out.symm);have q12:IntKind.i64.wrap (phaseV P Y 1+phaseV P Y 2)=phaseV P Y 1+phaseV P Y 2:=IntWalk.i64_in _ o_
   have q123:IntKind.i64.wrap (phaseV P Y 1+phaseV P Y 2+phaseV P Y 3)=s1+s2+s3:=by rw [htot];exact w123
   clear hbd hX htot;generalize phaseV P Y 1=t1 at *;generalize phaseV P Y 2=t2 at *;generalize phaseV P Y 3=t3 at *;have HW4:=hj_ hW4;have HB4:=hj_ hB4;have HX4:=hj_ hx4;have HR4:=hj_ hr4;clear hW4 hB4 hx4 hr4 ho4;go_wp2_with fail;rw [← HW4.out];clear c0 c1 c2 z2 hwl3;refine (HFY.out _ (br_)).mono ?_;rintro e w5 ⟨rfl,hb⟩;have HB5:=hj_ hb;have HR5:=hj_ (HR4.out.below hb HR4.out.1);have c0:=HR5.out.at_ (j:=0) rfl
   have c1:=HR5.out.at_ (j:=1) rfl
   have c2:=HR5.out.at_ (j:=2) rfl
   have hwl5:=HR5.out.1;obtain ⟨W6,hW6⟩:=ex_ (w5.alloc (.cells #[.int .i64 t1,.int .i64 t2,.int .i64 t3] 47));have hb6:Below w5.heap.size w5 W6:=by rw [hW6];exact (br_).alloc lr_ _
   have HY6:=hj_ (show Cells W6 w5.heap.size [.int .i64 t1,.int .i64 t2,.int .i64 t3] by rw [hW6];exact Cells.fresh w5 [.int .i64 t1,.int .i64 t2,.int .i64 t3] _)
   have HB6:=hj_ (ht_ hb hb6);have HW6:=hj_ hW6;clear hb hb6 hW6;go_wp2_with fail;rw [← HW6.out];clear c0 c1 c2 hwl5;refine (HCY.out _ HB6.out).mono ?_;rintro e w7 ⟨C,A4,c4,rfl,hC,hI,hb⟩;have HC:=hj_ hC;have HI:=hj_ hI;have HB7:=hj_ (ht_ HB6.out hb);have HY7:=hj_ (HY6.out.below hb HY6.out.1);have HR7:=hj_ (HR4.out.below HB7.out HR4.out.1);have c0:=HR7.out.at_ (j:=0) rfl
   have c1:=HR7.out.at_ (j:=1) rfl
   have c2:=HR7.out.at_ (j:=2) rfl
   have hwl7:=HR7.out.1;clear hb hC hI;go_wp2_with fail;clear c0 c1 c2 hwl7;refine (HUY.out _ HB7.out).mono ?_;rintro e w8 ⟨rfl,hb⟩;have HI8:=hj_ (HI.out.below hb);have HB8:=hj_ (ht_ HB7.out hb);have HY8:=hj_ (HY7.out.below hb HY7.out.1);have HX8:=hj_ (HX4.out.below HB8.out HX4.out.1);have HR8:=hj_ (HR4.out.below HB8.out HR4.out.1);have f0:=HX8.out.at_ (j:=0) rfl
   have f1:=HX8.out.at_ (j:=1) rfl
   have f2:=HX8.out.at_ (j:=2) rfl
   have lf:=HX8.out.1;have e0:=HY8.out.at_ (j:=0) rfl
   have e1:=HY8.out.at_ (j:=1) rfl
   have e2:=HY8.out.at_ (j:=2) rfl
   have le:=HY8.out.1;have HCl:=hj_ (show C.length≤64 by have:=HC.out.len;have:=HRY.out.hX;omega)
   have HEn:=hj_ (HEv.out (mxC m0 C) (Int.le_trans HM.out.1 mxC_le.1) (fun c hc=>mxC_le.2 c (HC.out.perm.mem_iff.2 hc)) (fun i hi hc=>by
    have hg:X.getD i fx0 ∈ X:=by
     rw [List.getD_eq_getElem?_getD,List.getElem?_eq_getElem hi,Option.getD_some];exact List.getElem_mem hi
    exact Int.le_trans (HM.out.2 _ hg hc) mxC_le.1))
   have HOne:=hj_ (show ∀ c ∈ C,c.ti≠0 from fun c hc=>HSl.out.one c (HC.out.perm.mem_iff.1 hc))
   generalize max (max t1 t2) t3-min (min t1 t2) t3=un at *;clear hb;go_wp2_with fail;clear f0 f1 f2 lf e0 e1 e2 le
   go_loopw [5,130] (fun sv iv wr=>∃ k:Nat,k≤C.length∧iv=.int .i64 k∧sv=.int .i64 (mxC m0 (C.take k))∧Below w8.heap.size w8 wr) (fun _ iv _=>C.length-(intOf iv).toNat)
   case atStart=>exact ⟨0,Nat.zero_le _,rfl,rfl,br_⟩
   case round =>
    obtain ⟨k,hk,rfl,rfl,hB⟩:=hrel
    by_cases hlt:k<C.length
    case pos =>
     obtain ⟨b,o,rfl,hbl,hcell⟩:=gl_at HI8.out o_
     obtain ⟨k0,k1,k2,k3⟩:=hcell k hlt;have p0:=(hB.cell (p:=⟨b,o+k*4,none⟩) hbl).trans k0;have p1:=(hB.cell (p:=⟨b,o+k*4+1,none⟩) hbl).trans k1;have p2:=(hB.cell (p:=⟨b,o+k*4+2,none⟩) hbl).trans k2;have p3:=(hB.cell (p:=⟨b,o+k*4+3,none⟩) hbl).trans k3;have hbw:b<wr.heap.size:=Nat.lt_of_lt_of_le hbl hB.size;have hmp:=q0lg m0 (C.take k) C[k];rw [← List.take_succ_eq_append_getElem hlt] at hmp;have hone:=HOne.out C[k] (List.getElem_mem hlt);have i0:(0:Int)≤(k:Int):=o_
     have i1:(k:Int)<(C.length:Int):=o_
     have w0:IntKind.i64.wrap ((k:Int)+1)=(k:Int)+1:=IntWalk.i64_in _ (oh_ HCl.out)
     have HLt:=hj_ hlt;have HPu:=hj_ hmp;clear hcell k0 k1 k2 k3 hmp;generalize C[k]=x at *;generalize mxC m0 (C.take k)=mk at *;obtain ⟨xs,xv,xa,xt⟩:=x;dsimp only at p0 p1 p2 p3 HPu hone;have g1:(xt == 0)=false:=by simpa using hone
     have HBk:=hj_ hB;clear hone hB;go_wp2_with fail
     go_roundw
     case rel=>exact ⟨k+1,HLt.out,by go_num,by rw [HPu.out],HBk.out.alloc HBk.out.size _⟩
     case measure=>have:=HLt.out;simp [intOf];omega
    case neg =>
     obtain rfl:k=C.length:=o_
     rw [List.take_length];have hle:=HEn.out;have HBe:=hj_ (HB4.out.trans ((ht_ HB8.out hB).mono HB4.out.size));generalize mxC m0 C=mx at *;have g1:decide (un≤mx)=true:=decide_eq_true hle;clear hB;go_wp2_with (go_at_call 8;refine (HAw.out _ (HT0.out.below HBe.out) (HRg0.out.below HBe.out)).mono ?_;rintro e w9 ⟨rfl,hb⟩);go_ret;exact ⟨rfl,ht_ HBe.out hb⟩
theorem q0no (w:World) (g:RG) (hg:g.good w) (hL:Laid w) :
  Calls Tryz.prog 5 #[.agg g.cs.toArray] w fun e w'=>e=.returned (.bool true)∧Below w.heap.size w w':=by
 obtain ⟨H,L,PL,X,hg⟩:=hg;exact q0lq w g H L PL X hg hL.1 hL.2
end Go.Proofs.YtabhjdmmfdfpeaaGreatDoor

namespace Go.Proofs.YtabhjdmmfdfpeaaGreatDoor.powerBalancesP
set_option maxHeartbeats 32000000
set_option maxRecDepth 100000
open _root_.Go.Proofs.Tryz
open Go.ChangeShapes Go.ChangeMaps Go.WideShapes Go.ChangeAt Go.RowKit
theorem lifted (os:Os) (started:os.Started) (H:Type) (enc:TypeId × Value→H) :
  ReturnsInHanded {} Tryz.checked os 5 .any (fun w args=>(Rows.powerBalancesSpec.pre enc Tryz.prog Tryz.f5 [] false w args∧laidMetH Tryz.prog Rows.powerBalancesRow.laid w)∧sizedMet enc Tryz.prog Tryz.f5 (OpenSpec.ofChange Rows.powerBalancesSpec) false w args)
   (Rows.powerBalancesSpec.post enc Tryz.prog Tryz.f5 false true false false):=by
 refine returnsInHanded_of_change_and (C:=Tryz.checked) (X:=fun w _=>laidMetH Tryz.prog Rows.powerBalancesRow.laid w) (fun _ _ _ hh h=>h.of_heap hh) own_ started k_ Tryz.func5
  (ChangeSpec.witness_at (enc:=enc) (C:=Tryz.checked) (os:=os) (X:=fun w _=>laidMetH Tryz.prog Rows.powerBalancesRow.laid w) false (qcj os) #[.agg #[.slice none 0 0,.slice none 0 0,.slice none 0 0]] 8 rfl k_ k_ k_ k_ k_ (qck os _)) ?_
 intro W base args ds gs before hval0 hW _ hWt hL _;have hval:∀ (j:Nat) t v,Tryz.f5.params[j]? = some t→args[j]? = some v→Value.okWide Tryz.prog W .any base t v:=hval0;have hW':=hW;obtain ⟨p,q,hA0,hV,rfl,hfz,hnd⟩:=hW;have hA:DataW.TrodAll enc Tryz.prog W 0 (fun _=>true) true Tryz.f5.params.toList args.toList ds p:=hA0
 rw [Tryz.params5] at hA hval hWt;obtain ⟨v0,vs0,d0,ds0,p0,q0,hargs,rfl,rfl,h0,r0⟩:=trodAll_cons hA;obtain ⟨rfl,rfl,rfl⟩:=trodAll_nil r0;obtain rfl:args=#[v0]:=by cases args;simp_all
 obtain ⟨rfl,rfl⟩:=trodVars_none hV;have lt0:∀ x ∈ p0,x.block<W.heap.size:=by obtain ⟨m,hm⟩:=h0;exact DataW.trod_lt m _ _ _ hm
 obtain ⟨cs0,fuel0,y0,rfl,hf0⟩:=q0a Tryz.underlying26 (hval 0 26 v0 rfl rfl) h0;obtain ⟨g0,rfl,hg0⟩:=qmc hf0;clear hA0 hval0 hWt;simp only [List.append_nil] at hW';refine (q0no W g0 hg0 (qcl hL)).mono fun e W' ⟨he,bel⟩=>?_
 subst he;exact ⟨_,rfl,_,_,_,[],_,[],hW',trodAll_mk1 (shut_bool Tryz.underlying4 _),(trodAll_cons_mk (Below.trod qci k_ (of_decide_eq_true k_) h0 bel lt0) trodAll_mk0),rfl,bel.frame _,fun h=>by cases h⟩
theorem over:Rows.powerBalancesRow.holds Tryz.pinned (OpenSpec.ofChange Rows.powerBalancesSpec) :=
 OpenClaim.holds_of_wide 5 Tryz.f5 rfl rfl rfl rfl rfl rfl rfl ⟨rfl,rfl,rfl,rfl,rfl⟩ rfl rfl rfl rfl rfl k_ Tryz.func5 q0mq
  (of_decide_eq_true k_) (by unfold Func.isWrapper;rw [if_neg (of_decide_eq_false k_)];exact ⟨rfl,rfl⟩)
  (fun os started H enc _=>lifted os started H enc)
theorem qew:∀ t ∈ Tryz.f5.params.toList,Tryz.prog.wantsStandIn t=false:=by
 rw [Tryz.params5];intro t ht;simp only [List.mem_cons,List.not_mem_nil,or_false] at ht;subst ht
 kernel_rfl
theorem limb1:OpenClaim.wfByText (OpenSpec.ofChange Rows.powerBalancesSpec) Rows.powerBalancesRow=true:=k_
theorem limb2 : Tryz.pinned.checked.prog.mainIs = some ((true, "c8318d360e0c024054e6fcf728bc31ca31889c9b1c4374acf87c4bc26a77ea3a").1, (true, "c8318d360e0c024054e6fcf728bc31ca31889c9b1c4374acf87c4bc26a77ea3a").2.toList) := k_
theorem limb3:true=Tryz.pinned.checked.prog.looks []:=k_
theorem limb4:false=Rows.powerBalancesRow.goesBy Tryz.pinned.checked.prog:=k_
theorem limb5 : Tryz.prog.funcNamed "luminaire/luminairelaw59.PowerBalances" = some 5 := k_
theorem proved:Rows.PowerBalancesCardSaid :=
 Claim7.holds_tied_plain_at .later [] [.data, .data, .data, .data, .sentinel, .sentinel, .pinned] true (true, "c8318d360e0c024054e6fcf728bc31ca31889c9b1c4374acf87c4bc26a77ea3a") true
  over (fun _ h=>by cases h) limb1 (fun _ h=>by cases h) powerBalances_row_tie rfl ⟨rfl,rfl⟩ limb2 rfl
  (fun f fn hf hfn=>by
   obtain rfl:f=5:=Option.some.inj (limb5.symm.trans hf) |>.symm
   obtain rfl:fn=Tryz.f5:=(Option.some.inj (Tryz.func5.symm.trans hfn)).symm;exact ⟨limb3,fun j t ht=>qew t (Array.mem_toList_iff.2 (Array.mem_of_getElem? ht))⟩)
  limb4
#print axioms proved
end Go.Proofs.YtabhjdmmfdfpeaaGreatDoor.powerBalancesP
