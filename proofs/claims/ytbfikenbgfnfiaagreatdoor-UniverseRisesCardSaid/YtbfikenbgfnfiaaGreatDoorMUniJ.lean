/- Lemmas. -/
import Derived.Test.YtbfikenbgfnfiaaGreatDoorMUniI
namespace Go.Proofs.YtbfikenbgfnfiaaGreatDoor
set_option maxHeartbeats 32000000

section
open Go.RowKit
theorem qft {w:World} {base sz k n c:Nat} {e:TypeId} {A:Option Addr} {xs:List Value} (h:w.ownsRow base e sz (.slice A n c) k xs):n≤c∧c≤9223372036854775807:=by
 obtain ⟨_,⟨h1,_⟩ | ⟨g,cap,cur,h1,_,_,h2,h3,_⟩⟩:=h
 ·cases h1;exact ⟨Nat.le_refl _,Nat.zero_le _⟩
 ·cases h1;exact ⟨h2,h3⟩
end

section
open Go.RowKit
theorem qpc {pg:List UInt8} {ad:Int} {f:Fea} {raw:Int} {a:Nat} {ft:Int} (h1:1≤ad) (hc:0≤f.co∧f.co<ft) (hb:f.bits=8∨f.bits=16) (hf:f.bits=16→0≤f.fi∧f.fi<ft) (ho:¬ (ad≤(a:Int)+1∧(a:Int)+1<ad+ft)):(setF pg ad f raw)[a]? = pg[a]?:=by
 unfold setF;have n1:¬ (ad-1+f.co).toNat=a:=by omega
 by_cases h8:f.bits=8
 ·rw [if_pos h8,List.getElem?_set,if_neg n1]
 ·have h2:=hf (by omega)
  have n2:¬ (ad-1+f.fi).toNat=a:=by omega
  rw [if_neg h8,List.getElem?_set,if_neg n2,List.getElem?_set,if_neg n1]
theorem qpg {L:List (List PT)} {l:List Am} {x:Fx} {a:Nat} {ft:Int} (h1:1≤x.ad) (ho:¬ (x.ad≤(a:Int)+1∧(a:Int)+1<x.ad+ft)) (F:List Fea) (hF:∀ f ∈ F,(0≤f.co∧f.co<ft)∧(f.bits=8∨f.bits=16)∧(f.bits=16→0≤f.fi∧f.fi<ft)):∀ pg:List UInt8,(setX L l x pg F)[a]? = pg[a]?:=by
 unfold setX
 induction F with
 | nil=>intro pg;rfl
 | cons f F ih =>
  intro pg;rw [List.foldl_cons,ih (fun g hg=>hF g (List.mem_cons_of_mem _ hg))]
  obtain ⟨c1,c2,c3⟩:=hF f (List.mem_cons_self ..);exact qpc h1 c1 c2 c3 ho
def FitX (PL:List (PC × List Fea)) (x:Fx):Prop:=1≤x.ad∧∀ f ∈ featV PL x.pr,(0≤f.co∧f.co<footV (PL.map Prod.fst) x.pr)∧(f.bits=8∨f.bits=16)∧(f.bits=16→0≤f.fi∧f.fi<footV (PL.map Prod.fst) x.pr)
theorem fit_of {L:List (List PT)} {PL:List (PC × List Fea)} {X:List Fx} (hu:uniE L PL X=0):∀ x ∈ X,FitX PL x:=by
 obtain ⟨-,-,hFx,hFe⟩:=qu8 hu;intro x hx;obtain ⟨i,hi,rfl⟩:=List.getElem_of_mem hx;obtain ⟨hrn,-,-,p,hp⟩:=hFx i hi;refine ⟨?_,?_⟩
 ·unfold qkt at hrn
  simp only [Bool.and_eq_true,decide_eq_true_eq] at hrn;exact hrn.1.2.1
 ·have hpf:=q83 PL X[i].pr
  rw [hp] at hpf;intro f hf;unfold featV at hf
  cases hq:PL.find? (fun x=>decide (x.1.s=X[i].pr)) with
  | none=>rw [hq] at hf;exact absurd hf (List.not_mem_nil)
  | some y =>
   rw [hq] at hf hpf
   injection hpf with hpf
   have hft:footV (PL.map Prod.fst) X[i].pr=y.1.ft:=by unfold footV;rw [hp,hpf]
   have hg:=hFe y (List.mem_of_find?_eq_some hq) f hf;rw [hft];exact ⟨hg.2.1,(q0g hg.1).2.1,hg.2.2⟩
theorem qa7 (l:List Am):givE l=0↔l.length≤4096∧(∀ a ∈ l,paramE a.ch a.at_=0∧errLv a.lev.data.toList=0)∧l.Pairwise (fun x y=>q15 x y=true):=by
 constructor
 ·intro h
  refine ⟨(qa5 h).1,fun a ha=>?_,?_⟩
  ·obtain ⟨i,hi,rfl⟩:=List.getElem_of_mem ha
   have:=am_ok ((qa5 h).2 i hi)
   rw [qa1 hi] at this;exact ⟨this.2.2,this.1⟩
  ·rw [List.pairwise_iff_getElem]
   intro i j hi hj hij
   have:=qa6 h hij hj
   rwa [qa1 hi,qa1 hj] at this
 ·rintro ⟨h1,h2,h3⟩
  unfold givE;rw [if_neg (by omega)]
  refine q86 fun i hi=>?_
  obtain ⟨p1,p2⟩:=h2 _ (List.getElem_mem hi);unfold amE;rw [qa1 hi,if_neg (fun h=>h p1),if_neg (fun h=>h p2),if_neg]
  rintro ⟨h4,h5⟩;rw [qa1 (by omega)] at h5
  have:=List.pairwise_iff_getElem.1 h3 (i-1) i (by omega) hi (by omega)
  rw [this] at h5
  cases h5
theorem q9m (used:Int→Bool) (c:Int→List UInt8):∀ n,∀ x ∈ frmG used c n,x.sl=⟨(c x.un).toArray⟩
 | 0,x,h=>absurd h (List.not_mem_nil)
 | n+1,x,h=>by
  rw [frmG] at h
  rcases List.mem_append.1 h with h | h
  ·exact q9m used c n x h
  ·cases hu:used ((n:Int)+1) with
   | false=>rw [hu] at h;simp at h
   | true =>
    rw [hu,if_pos rfl,List.mem_singleton] at h;subst h
    rfl
end

section
open Go.RowKit
end

section
open Go.RowKit
theorem qah (w:World) (g o:Nat) (vs:List Value):w.grownBy (w.setCells g o vs) (some g):=by
 induction vs generalizing o w with
 | nil=>exact World.grownBy.refl _ _
 | cons v vs ih=>exact (qag w g o v).trans (ih (w.setCell ⟨g,o,none⟩ v) (o+1))
end

section
open Go.RowKit
end

section
open Go.RowKit
end

section
open Go.RowKit
theorem q00r {L:List (List PT)} {PL:List (PC × List Fea)} {X:List Fx} {l:List Am} (hu:uniE L PL X=0) (hg:givE l=0):frE L PL X l=0∧frV L PL X l=frmG (usedU X) (pageV L l PL X) 8∧RgL (frV L PL X l)∧(frV L PL X l).length≤8:=by
 have hE:frE L PL X l=0:=by unfold frE;rw [if_neg (fun h=>h hu),hg]
 have hV:frV L PL X l=frmG (usedU X) (pageV L l PL X) 8:=by unfold frV;rw [if_neg (fun h=>h hE)]
 refine ⟨hE,hV,?_,?_⟩
 ·rw [hV];exact (q9l _ _ (fun u=>qg7 L l PL u X) 8 (Nat.le_refl _)).1
 ·rw [hV];exact q9k _ _ 8
end

end Go.Proofs.YtbfikenbgfnfiaaGreatDoor
