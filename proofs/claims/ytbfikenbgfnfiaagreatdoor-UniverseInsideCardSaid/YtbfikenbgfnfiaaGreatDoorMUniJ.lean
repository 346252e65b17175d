/- Lemmas and contracts of functions, joined for the claim: UFrG, PrCap, UPlainD, UUses, UDep1, UDel, UDel2. -/
import Derived.Test.YtbfikenbgfnfiaaGreatDoorMProE
import Derived.Test.YtbfikenbgfnfiaaGreatDoorMUniI
import Derived.Test.YtbfikenbgfnfiaaGreatDoorMUniA
import Derived.Deep.RegionLaw
import Derived.Lib.SliceRun
import Derived.Test.YtbfikenbgfnfiaaGreatDoorMTake
import Derived.Test.YtbfikenbgfnfiaaGreatDoorMUniG
import Derived.Test.YtbfikenbgfnfiaaGreatDoorMUniB
import Derived.Test.YtbfikenbgfnfiaaGreatDoorMUniF
import Derived.Deep.RegionHeld3
import Derived.Test.YtbfikenbgfnfiaaGreatDoorMUniE
import Derived.Test.YtbfikenbgfnfiaaGreatDoorMUniD
import Derived.Test.YtbfikenbgfnfiaaGreatDoorMUp
namespace Go.Proofs.YtbfikenbgfnfiaaGreatDoor
set_option maxHeartbeats 32000000
open _root_.Go.Proofs.Tryz

section
open Go.RowKit
end

section
open Go.RowKit
theorem qpe {pg pg':List UInt8} {ad:Int} {f:Fea} {raw:Int} {a:Nat} (hl:pg.length=pg'.length) (h:pg[a]? = pg'[a]?):(setF pg ad f raw)[a]? = (setF pg' ad f raw)[a]?:=by
 unfold setF
 by_cases hb:f.bits=8
 ·rw [if_pos hb,if_pos hb,List.getElem?_set,List.getElem?_set,hl,h]
 ·rw [if_neg hb,if_neg hb,List.getElem?_set,List.getElem?_set,List.getElem?_set,List.getElem?_set,List.length_set,List.length_set,hl,h]
theorem qpc {pg:List UInt8} {ad:Int} {f:Fea} {raw:Int} {a:Nat} {ft:Int} (h1:1≤ad) (hc:0≤f.co∧f.co<ft) (hb:f.bits=8∨f.bits=16) (hf:f.bits=16→0≤f.fi∧f.fi<ft) (ho:¬ (ad≤(a:Int)+1∧(a:Int)+1<ad+ft)):(setF pg ad f raw)[a]? = pg[a]?:=by
 unfold setF;have n1:¬ (ad-1+f.co).toNat=a:=by omega
 by_cases h8:f.bits=8
 ·rw [if_pos h8,List.getElem?_set,if_neg n1]
 ·have h2:=hf (by omega)
  have n2:¬ (ad-1+f.fi).toNat=a:=by omega
  rw [if_neg h8,List.getElem?_set,if_neg n2,List.getElem?_set,if_neg n1]
theorem qpj {L:List (List PT)} {l l':List Am} {x:Fx} {a:Nat} (ht:∀ at_ ho,toldT l x.ch at_ ho=toldT l' x.ch at_ ho) (F:List Fea):∀ {pg pg':List UInt8},pg.length=pg'.length→pg[a]? = pg'[a]?→(setX L l x pg F)[a]? = (setX L l' x pg' F)[a]?:=by
 unfold setX
 induction F with
 | nil=>intro pg pg' _ h;exact h
 | cons f F ih =>
  intro pg pg' hl h;rw [List.foldl_cons,List.foldl_cons];have e:rawF L l x.ch f=rawF L l' x.ch f:=by unfold rawF;rw [ht]
  rw [e];exact ih (by rw [qpd,qpd,hl]) (qpe hl h)
theorem qpg {L:List (List PT)} {l:List Am} {x:Fx} {a:Nat} {ft:Int} (h1:1≤x.ad) (ho:¬ (x.ad≤(a:Int)+1∧(a:Int)+1<x.ad+ft)) (F:List Fea) (hF:∀ f ∈ F,(0≤f.co∧f.co<ft)∧(f.bits=8∨f.bits=16)∧(f.bits=16→0≤f.fi∧f.fi<ft)):∀ pg:List UInt8,(setX L l x pg F)[a]? = pg[a]?:=by
 unfold setX
 induction F with
 | nil=>intro pg;rfl
 | cons f F ih =>
  intro pg;rw [List.foldl_cons,ih (fun g hg=>hF g (List.mem_cons_of_mem _ hg))]
  obtain ⟨c1,c2,c3⟩:=hF f (List.mem_cons_self ..);exact qpc h1 c1 c2 c3 ho
def FitX (PL:List (PC × List Fea)) (x:Fx):Prop:=1≤x.ad∧∀ f ∈ featV PL x.pr,(0≤f.co∧f.co<footV (PL.map Prod.fst) x.pr)∧(f.bits=8∨f.bits=16)∧(f.bits=16→0≤f.fi∧f.fi<footV (PL.map Prod.fst) x.pr)
theorem fit_of {L:List (List PT)} {PL:List (PC × List Fea)} {X:List Fx} (hu:uniE L PL X=0):∀ x ∈ X,FitX PL x:=by
 obtain ⟨-,-,hFx,hFe⟩:=qu8 hu;intro x hx;obtain ⟨i,hi,rfl⟩:=List.getElem_of_mem hx;obtain ⟨hrn,-,-,p,hp⟩:=hFx i hi;refine ⟨?_,?_⟩
 ·unfold qkt at hrn
  simp only [Bool.and_eq_true,decide_eq_true_eq] at hrn;exact hrn.1.2.1
 ·have hpf:=q83 PL X[i].pr
  rw [hp] at hpf;intro f hf;unfold featV at hf
  cases hq:PL.find? (fun x=>decide (x.1.s=X[i].pr)) with
  | none=>rw [hq] at hf;exact absurd hf (List.not_mem_nil)
  | some y =>
   rw [hq] at hf hpf
   injection hpf with hpf
   have hft:footV (PL.map Prod.fst) X[i].pr=y.1.ft:=by unfold footV;rw [hp,hpf]
   have hg:=hFe y (List.mem_of_find?_eq_some hq) f hf;rw [hft];exact ⟨hg.2.1,(q0g hg.1).2.1,hg.2.2⟩
theorem qga {L:List (List PT)} {l l':List Am} {PL:List (PC × List Fea)} {u:Int} {a:Nat} (X:List Fx) (hX:∀ x ∈ X,FitX PL x) (h:∀ x ∈ X,usesB (PL.map Prod.fst) x u ((a:Int)+1)=true→∀ at_ ho,toldT l x.ch at_ ho=toldT l' x.ch at_ ho):(pageV L l PL X u)[a]? = (pageV L l' PL X u)[a]?:=by
 unfold pageV
 suffices key:∀ pg pg':List UInt8,pg.length=pg'.length→pg[a]? = pg'[a]?→(X.foldl (fun pg x=>if x.un=u then setX L l x pg (featV PL x.pr) else pg) pg)[a]? = (X.foldl (fun pg x=>if x.un=u then setX L l' x pg (featV PL x.pr) else pg) pg')[a]? from key _ _ rfl rfl
 induction X with
 | nil=>intro pg pg' _ h;exact h
 | cons x X ih =>
  intro pg pg' hl hp;rw [List.foldl_cons,List.foldl_cons];have ih2:=ih (fun y hy=>hX y (List.mem_cons_of_mem _ hy)) (fun y hy=>h y (List.mem_cons_of_mem _ hy))
  by_cases hu:x.un=u
  ·rw [if_pos hu,if_pos hu]
   refine ih2 _ _ (by rw [qph,qph,hl]) ?_
   obtain ⟨h1,hf⟩:=hX x (List.mem_cons_self ..)
   cases hus:usesB (PL.map Prod.fst) x u ((a:Int)+1) with
   | true=>exact qpj (h x (List.mem_cons_self ..) hus) _ hl hp
   | false =>
    have ho:¬ (x.ad≤(a:Int)+1∧(a:Int)+1<x.ad+footV (PL.map Prod.fst) x.pr):=fun ⟨h2,h3⟩=>by
     unfold usesB at hus;rw [decide_eq_true hu,decide_eq_true h2,decide_eq_true h3] at hus
     cases hus
    rw [qpg h1 ho _ hf,qpg h1 ho _ hf];exact hp
  ·rw [if_neg hu,if_neg hu]
   exact ih2 _ _ hl hp
theorem qgb {L:List (List PT)} {l:List Am} {PL:List (PC × List Fea)} {u:Int} {a:Nat} (X:List Fx) (hX:∀ x ∈ X,FitX PL x) (h:∀ x ∈ X,usesB (PL.map Prod.fst) x u ((a:Int)+1)=false):(pageV L l PL X u)[a]? = q00p[a]?:=by
 unfold pageV
 suffices key:∀ pg:List UInt8,(X.foldl (fun pg x=>if x.un=u then setX L l x pg (featV PL x.pr) else pg) pg)[a]? = pg[a]? from key _
 induction X with
 | nil=>intro pg;rfl
 | cons x X ih =>
  intro pg;rw [List.foldl_cons,ih (fun y hy=>hX y (List.mem_cons_of_mem _ hy)) (fun y hy=>h y (List.mem_cons_of_mem _ hy))]
  by_cases hu:x.un=u
  ·rw [if_pos hu]
   obtain ⟨h1,hf⟩:=hX x (List.mem_cons_self ..);refine qpg h1 (fun ⟨h2,h3⟩=>?_) _ hf _
   have hus:=h x (List.mem_cons_self ..);unfold usesB at hus;rw [decide_eq_true hu,decide_eq_true h2,decide_eq_true h3] at hus
   cases hus
  ·rw [if_neg hu]
theorem q9m (used:Int→Bool) (c:Int→List UInt8):∀ n,∀ x ∈ frmG used c n,x.sl=⟨(c x.un).toArray⟩
 | 0,x,h=>absurd h (List.not_mem_nil)
 | n+1,x,h=>by
  rw [frmG] at h
  rcases List.mem_append.1 h with h | h
  ·exact q9m used c n x h
  ·cases hu:used ((n:Int)+1) with
   | false=>rw [hu] at h;simp at h
   | true =>
    rw [hu,if_pos rfl,List.mem_singleton] at h;subst h
    rfl
end

section
open Go.RowKit
end

section
open Go.RowKit
end

section
open Go.RowKit
set_option maxRecDepth 100000 in
theorem qo2 (A:Option Addr) (n c:Nat) (P:List PC) (x:Fx) (u a:Int) (w:World) (hl:shPr.In w A n P) (hn:n≤9223372036854775806) (hx:FxOK P x) :
  Calls prog 24 #[.slice A n c,x.val,.int .i64 u,.int .i64 a] w fun e w'=>e=.returned (.bool (usesB P x u a))∧Below w.heap.size w w':=by
 have hov:usesB P x u a=(decide (x.un=u) && decide (x.ad≤a) && decide (a<x.ad+footV P x.pr)):=rfl;obtain ⟨hx1,hx2,hx3,px,hx4⟩:=hx;have hxa:1≤x.ad:=by
  have h:¬ _:=fun h2=>absurd ((qku (x:=x)).2 h2) (by rw [hx1];decide)
  omega
 have HX:=Lib.hid (fun w' hl=>qnp A n c P x w' hl hn px hx4)
 obtain ⟨ch,pt,pr,un,ad,ph,cb⟩:=x;dsimp only at hov hx2 hx3 hxa;replace HX:=Lib.hid (show ∀ w',shPr.In w' A n P→Calls prog 69 #[.slice A n c,.agg #[.int .i64 ch,.int .i64 pt,.string pr,.int .i64 un,.int .i64 ad,.int .i64 ph,.string cb]] w' fun e w''=>e=.returned (.int .i64 (footV P pr))∧Below w'.heap.size w' w'' from HX.out)
 show Calls prog 24 #[.slice A n c,.agg #[.int .i64 ch,.int .i64 pt,.string pr,.int .i64 un,.int .i64 ad,.int .i64 ph,.string cb],.int .i64 u,.int .i64 a] w fun e w'=>e=.returned (.bool (usesB P ⟨ch,pt,pr,un,ad,ph,cb⟩ u a))∧Below w.heap.size w w'
 generalize usesB P _ _ _=q at *;generalize footV P pr=F at *;have he:(un == u)=decide (un=u):=by rw [Bool.eq_iff_iff];simp
 have w1:IntKind.i64.wrap (ad+F)=ad+F:=IntWalk.i64_in _ (by omega)
 obtain ⟨W,hW⟩:∃ W,W=(w.alloc (.cells #[.int .i64 ch,.int .i64 pt,.string pr,.int .i64 un,.int .i64 ad,.int .i64 ph,.string cb] 55)):=⟨_,rfl⟩;obtain ⟨hB0,hK0⟩:=box1 #[.int .i64 ch,.int .i64 pt,.string pr,.int .i64 un,.int .i64 ad,.int .i64 ph,.string cb] 55 w W hW;have hK:∀ w',Below W.heap.size W w'→w'.cell? ⟨w.heap.size,0,none⟩=some (.int .i64 ch)∧w'.cell? ⟨w.heap.size,1,none⟩=some (.int .i64 pt)∧w'.cell? ⟨w.heap.size,2,none⟩=some (.string pr)∧w'.cell? ⟨w.heap.size,3,none⟩=some (.int .i64 un)∧w'.cell? ⟨w.heap.size,4,none⟩=some (.int .i64 ad)∧w'.cell? ⟨w.heap.size,5,none⟩=some (.int .i64 ph)∧w'.cell? ⟨w.heap.size,6,none⟩=some (.string cb):=fun w' h=>⟨(hK0 w' h) 0 _ rfl,(hK0 w' h) 1 _ rfl,(hK0 w' h) 2 _ rfl,(hK0 w' h) 3 _ rfl,(hK0 w' h) 4 _ rfl,(hK0 w' h) 5 _ rfl,(hK0 w' h) 6 _ rfl⟩
 have HK:=Lib.hid hK;have HW:=Lib.hid hW;have HB0:=Lib.hid hB0;have hB:=Below.refl W.heap.size W;obtain ⟨c0,c1,c2,c3,c4,c5,c6⟩:=hK W hB;clear hW hB0 hK hK0;have HL:=Lib.hid (hl.below HB0.out);clear hl hx1 hx4 hn
 by_cases h1:un=u
 case neg =>
  rw [decide_eq_false h1,Bool.false_and,Bool.false_and] at hov;rw [decide_eq_false h1] at he;subst hov;clear h1
  go_enter func24,ntmps24
  go_wp2_with fail;rw [← HW.out];go_quiet (fail);replace hB:=q18 hB nq;go_wp2_with fail;go_ret;exact ⟨rfl,HB0.out.trans (hB.mono HB0.out.size)⟩
 rw [decide_eq_true h1] at he;rw [decide_eq_true h1,Bool.true_and] at hov;clear h1
 by_cases h2:ad≤a
 case neg =>
  rw [decide_eq_false h2,Bool.false_and] at hov;have g2:decide (ad≤a)=false:=decide_eq_false h2;subst hov;clear h2
  go_enter func24,ntmps24
  go_wp2_with fail;rw [← HW.out];go_quiet (fail);replace hB:=q18 hB nq;go_wp2_with fail;go_ret;exact ⟨rfl,HB0.out.trans (hB.mono HB0.out.size)⟩
 rw [decide_eq_true h2,Bool.true_and] at hov;have g2:decide (ad≤a)=true:=decide_eq_true h2;clear h2
 by_cases h3:a<ad+F
 ·rw [decide_eq_true h3] at hov
  have g3:decide (a<ad+F)=true:=decide_eq_true h3;subst hov;clear h3
  go_enter func24,ntmps24
  go_wp2_with fail;rw [← HW.out];replace hB:=q18 hB 1;obtain ⟨c0,c1,c2,c3,c4,c5,c6⟩:=HK.out _ hB;refine wp_region_held_drew (S:=fun w'=>w'.cell? ⟨w.heap.size,0,none⟩=some (.int .i64 ch)∧w'.cell? ⟨w.heap.size,1,none⟩=some (.int .i64 pt)∧w'.cell? ⟨w.heap.size,2,none⟩=some (.string pr)∧w'.cell? ⟨w.heap.size,3,none⟩=some (.int .i64 un)∧w'.cell? ⟨w.heap.size,4,none⟩=some (.int .i64 ad)∧w'.cell? ⟨w.heap.size,5,none⟩=some (.int .i64 ph)∧w'.cell? ⟨w.heap.size,6,none⟩=some (.string cb)) (by kernel_rfl) (by first | exact ⟨c0,c1,c2,c3,c4,c5,c6⟩) (fun hHeld=>?_)
  repeat
   refine tk (i:=?_) (oi:=?_) (v:=?_) ?_ ?_ ?_ ?_ ?_ ?_ ?_ ?_ ?_
   rotate_left 3
   ·first | exact Eq.refl 0 | exact Eq.refl 1 | exact Eq.refl 2 | exact Eq.refl 3 | exact Eq.refl 4 | exact Eq.refl 5 | exact Eq.refl 6 | exact Eq.refl 7 | exact Eq.refl 8 | exact Eq.refl 9 | exact Eq.refl 10 | exact Eq.refl 11 | exact Eq.refl 12 | exact Eq.refl 13 | exact Eq.refl 14 | exact Eq.refl 15 | exact Eq.refl 16 | exact Eq.refl 17 | exact Eq.refl 18 | exact Eq.refl 19 | exact Eq.refl 20 | exact Eq.refl 21 | exact Eq.refl 22 | exact Eq.refl 23 | exact Eq.refl 24 | exact Eq.refl 25 | exact Eq.refl 26 | exact Eq.refl 27
   ·simp only [List.getElem?_toArray,List.getElem?_cons_succ,List.getElem?_cons_zero];rfl
   ·kernel_rfl
   ·kernel_rfl
   ·kernel_rfl
   rotate_left 1
   ·first | (refine Or.inl ⟨?_,?_⟩;(· rfl);intro w hSw;(try dsimp only at hSw);go_simp;try with_reducible rfl) | exact Or.inr ⟨rfl,rfl⟩
   ·assumption
   rotate_left 1
   ·exact fun _ _ _ h=>h
   simp only [Act.put,List.setIfInBounds_toArray,List.set_cons_zero,List.set_cons_succ]
  refine wpAnyH_ready (rs:=[16]) (by kernel_rfl) (by simp) ?_
  refine AllReadyH.cons rfl (fun K hK=>?_) AllReadyH.nil
  go_simp
  go_at_call 69;refine uq_ (HX.out _ (HL.out.below hB)) hB ?_;clear hB;intro wk hB;obtain ⟨c0,c1,c2,c3,c4,c5,c6⟩:=HK.out _ hB
  go_wp2_with fail;refine hK.out _ _ (by first | exact ⟨c0,c1,c2,c3,c4,c5,c6⟩) (fun hHeld=>?_)
  clear hK K
  try simp only [Act.put,List.setIfInBounds_toArray,List.set_cons_zero,List.set_cons_succ]
  repeat
   refine tk (i:=?_) (oi:=?_) (v:=?_) ?_ ?_ ?_ ?_ ?_ ?_ ?_ ?_ ?_
   rotate_left 3
   ·first | exact Eq.refl 0 | exact Eq.refl 1 | exact Eq.refl 2 | exact Eq.refl 3 | exact Eq.refl 4 | exact Eq.refl 5 | exact Eq.refl 6 | exact Eq.refl 7 | exact Eq.refl 8 | exact Eq.refl 9 | exact Eq.refl 10 | exact Eq.refl 11 | exact Eq.refl 12 | exact Eq.refl 13 | exact Eq.refl 14 | exact Eq.refl 15 | exact Eq.refl 16 | exact Eq.refl 17 | exact Eq.refl 18 | exact Eq.refl 19 | exact Eq.refl 20 | exact Eq.refl 21 | exact Eq.refl 22 | exact Eq.refl 23 | exact Eq.refl 24 | exact Eq.refl 25 | exact Eq.refl 26 | exact Eq.refl 27
   ·simp only [List.getElem?_toArray,List.getElem?_cons_succ,List.getElem?_cons_zero];rfl
   ·kernel_rfl
   ·kernel_rfl
   ·kernel_rfl
   rotate_left 1
   ·first | (refine Or.inl ⟨?_,?_⟩;(· rfl);intro w hSw;(try dsimp only at hSw);go_simp;try with_reducible rfl) | exact Or.inr ⟨rfl,rfl⟩
   ·assumption
   rotate_left 1
   ·exact fun _ _ _ h=>h
   simp only [Act.put,List.setIfInBounds_toArray,List.set_cons_zero,List.set_cons_succ]
  refine wpAnyH_done (by kernel_rfl) ?_ _
  go_wp2_with fail;go_ret;exact ⟨rfl,HB0.out.trans (hB.mono HB0.out.size)⟩
 ·rw [decide_eq_false h3] at hov
  have g3:decide (a<ad+F)=false:=decide_eq_false h3;subst hov;clear h3
  go_enter func24,ntmps24
  go_wp2_with fail;rw [← HW.out];replace hB:=q18 hB 1;obtain ⟨c0,c1,c2,c3,c4,c5,c6⟩:=HK.out _ hB;refine wp_region_held_drew (S:=fun w'=>w'.cell? ⟨w.heap.size,0,none⟩=some (.int .i64 ch)∧w'.cell? ⟨w.heap.size,1,none⟩=some (.int .i64 pt)∧w'.cell? ⟨w.heap.size,2,none⟩=some (.string pr)∧w'.cell? ⟨w.heap.size,3,none⟩=some (.int .i64 un)∧w'.cell? ⟨w.heap.size,4,none⟩=some (.int .i64 ad)∧w'.cell? ⟨w.heap.size,5,none⟩=some (.int .i64 ph)∧w'.cell? ⟨w.heap.size,6,none⟩=some (.string cb)) (by kernel_rfl) (by first | exact ⟨c0,c1,c2,c3,c4,c5,c6⟩) (fun hHeld=>?_)
  repeat
   refine tk (i:=?_) (oi:=?_) (v:=?_) ?_ ?_ ?_ ?_ ?_ ?_ ?_ ?_ ?_
   rotate_left 3
   ·first | exact Eq.refl 0 | exact Eq.refl 1 | exact Eq.refl 2 | exact Eq.refl 3 | exact Eq.refl 4 | exact Eq.refl 5 | exact Eq.refl 6 | exact Eq.refl 7 | exact Eq.refl 8 | exact Eq.refl 9 | exact Eq.refl 10 | exact Eq.refl 11 | exact Eq.refl 12 | exact Eq.refl 13 | exact Eq.refl 14 | exact Eq.refl 15 | exact Eq.refl 16 | exact Eq.refl 17 | exact Eq.refl 18 | exact Eq.refl 19 | exact Eq.refl 20 | exact Eq.refl 21 | exact Eq.refl 22 | exact Eq.refl 23 | exact Eq.refl 24 | exact Eq.refl 25 | exact Eq.refl 26 | exact Eq.refl 27
   ·simp only [List.getElem?_toArray,List.getElem?_cons_succ,List.getElem?_cons_zero];rfl
   ·kernel_rfl
   ·kernel_rfl
   ·kernel_rfl
   rotate_left 1
   ·first | (refine Or.inl ⟨?_,?_⟩;(· rfl);intro w hSw;(try dsimp only at hSw);go_simp;try with_reducible rfl) | exact Or.inr ⟨rfl,rfl⟩
   ·assumption
   rotate_left 1
   ·exact fun _ _ _ h=>h
   simp only [Act.put,List.setIfInBounds_toArray,List.set_cons_zero,List.set_cons_succ]
  refine wpAnyH_ready (rs:=[16]) (by kernel_rfl) (by simp) ?_
  refine AllReadyH.cons rfl (fun K hK=>?_) AllReadyH.nil
  go_simp
  go_at_call 69;refine uq_ (HX.out _ (HL.out.below hB)) hB ?_;clear hB;intro wk hB;obtain ⟨c0,c1,c2,c3,c4,c5,c6⟩:=HK.out _ hB
  go_wp2_with fail;refine hK.out _ _ (by first | exact ⟨c0,c1,c2,c3,c4,c5,c6⟩) (fun hHeld=>?_)
  clear hK K
  try simp only [Act.put,List.setIfInBounds_toArray,List.set_cons_zero,List.set_cons_succ]
  repeat
   refine tk (i:=?_) (oi:=?_) (v:=?_) ?_ ?_ ?_ ?_ ?_ ?_ ?_ ?_ ?_
   rotate_left 3
   ·first | exact Eq.refl 0 | exact Eq.refl 1 | exact Eq.refl 2 | exact Eq.refl 3 | exact Eq.refl 4 | exact Eq.refl 5 | exact Eq.refl 6 | exact Eq.refl 7 | exact Eq.refl 8 | exact Eq.refl 9 | exact Eq.refl 10 | exact Eq.refl 11 | exact Eq.refl 12 | exact Eq.refl 13 | exact Eq.refl 14 | exact Eq.refl 15 | exact Eq.refl 16 | exact Eq.refl 17 | exact Eq.refl 18 | exact Eq.refl 19 | exact Eq.refl 20 | exact Eq.refl 21 | exact Eq.refl 22 | exact Eq.refl 23 | exact Eq.refl 24 | exact Eq.refl 25 | exact Eq.refl 26 | exact Eq.refl 27
   ·simp only [List.getElem?_toArray,List.getElem?_cons_succ,List.getElem?_cons_zero];rfl
   ·kernel_rfl
   ·kernel_rfl
   ·kernel_rfl
   rotate_left 1
   ·first | (refine Or.inl ⟨?_,?_⟩;(· rfl);intro w hSw;(try dsimp only at hSw);go_simp;try with_reducible rfl) | exact Or.inr ⟨rfl,rfl⟩
   ·assumption
   rotate_left 1
   ·exact fun _ _ _ h=>h
   simp only [Act.put,List.setIfInBounds_toArray,List.set_cons_zero,List.set_cons_succ]
  refine wpAnyH_done (by kernel_rfl) ?_ _
  go_wp2_with fail;go_ret;exact ⟨rfl,HB0.out.trans (hB.mono HB0.out.size)⟩
end

section
open Go.RowKit
theorem q3u (g:Nat) (cb:Array Value) (p:Fx→Bool) (A:Option Addr) (n c:Nat) (l:List Fx) (w:World) (eg:∀ args w,(callFunc g args).run prog w=.ok (.enter g args) w) (hl:shX.In w A n l) (hn:n≤9223372036854775807)
  (hf:∀ i (h:i<l.length) (W:World),Below w.heap.size w W→Calls prog g (#[l[i].val] ++ cb) W fun e w'=>e=.returned (.bool (p l[i]))∧Below W.heap.size W w') :
  Calls prog 22 #[.slice A n c,.func (.func g) #[] cb] w fun e w'=>e=.returned (.bool (l.any p))∧Below w.heap.size w w':=by
 have hB:=Below.refl w.heap.size w;have HI:=Lib.hid (qbo g cb p A n c l w eg hl hn hf);have hi:decide (0≤idxOf p l)=l.any p:=by
  rw [Bool.eq_iff_iff,decide_eq_true_eq]
  constructor
  ·intro h
   have hlt:=qbb (p:=p) l;have h2:=qba (p:=p) (l:=l) (k:=(idxOf p l).toNat) (by omega) (by omega)
   exact List.any_eq_true.2 ⟨_,List.getElem_mem _,h2⟩
  ·intro h
   have hge:=qb9 (p:=p) l;refine Classical.byContradiction fun h0=>?_
   have h1:idxOf p l=-1:=by omega
   obtain ⟨x,hx,hp⟩:=List.any_eq_true.1 h;have key:∀ {l:List Fx},idxOf p l=-1→∀ x ∈ l,p x=false:=by
    intro l
    induction l with
    | nil=>intro _ x hx;exact absurd hx (List.not_mem_nil)
    | cons a l ih =>
     intro h x hx;rw [idxOf] at h
     cases ha:p a with
     | true=>rw [ha] at h;simp at h
     | false =>
      rw [ha] at h;simp only [Bool.false_eq_true,if_false] at h;have hg:=qb9 (p:=p) l
      rcases List.mem_cons.1 hx with rfl | hx
      ·exact ha
      ·by_cases h2:idxOf p l<0
       ·exact ih (by omega) x hx
       ·rw [if_neg h2] at h;omega
   rw [key h1 x hx] at hp
   cases hp
 clear hl hf;generalize idxOf p l=K at *;generalize l.any p=q at *
 go_enter func22,ntmps22
 go_wp2_with fail;refine uq_ HI.out hB ?_;clear hB;intro wk hB;go_wp2_with fail;go_ret;exact ⟨by first | rfl | exact ret_b hi,hB⟩
end

section
open Go.RowKit
theorem q00r {L:List (List PT)} {PL:List (PC × List Fea)} {X:List Fx} {l:List Am} (hu:uniE L PL X=0) (hg:givE l=0):frE L PL X l=0∧frV L PL X l=frmG (usedU X) (pageV L l PL X) 8∧RgL (frV L PL X l)∧(frV L PL X l).length≤8:=by
 have hE:frE L PL X l=0:=by unfold frE;rw [if_neg (fun h=>h hu),hg]
 have hV:frV L PL X l=frmG (usedU X) (pageV L l PL X) 8:=by unfold frV;rw [if_neg (fun h=>h hE)]
 refine ⟨hE,hV,?_,?_⟩
 ·rw [hV];exact (q9l _ _ (fun u=>qg7 L l PL u X) 8 (Nat.le_refl _)).1
 ·rw [hV];exact q9k _ _ 8
end

end Go.Proofs.YtbfikenbgfnfiaaGreatDoor
