/- Lemmas and contracts of functions, joined for the claim: UPlainS, UPlainT. -/
import Derived.Test.YtbfikenbgfnfiaaGreatDoorTUniJ
import Derived.Test.YtbfikenbgfnfiaaGreatDoorTUniD
namespace Go.Proofs.YtbfikenbgfnfiaaGreatDoor
set_option maxHeartbeats 32000000

section
open Go.RowKit
def Apart (f g:Fea):Prop:=f.co≠g.co∧(f.bits=16→f.fi≠g.co)∧(g.bits=16→f.co≠g.fi∧(f.bits=16→f.fi≠g.fi))
def FitF (ad:Int) (f:Fea):Prop:=(f.bits=8∨f.bits=16)∧0≤ad-1+f.co∧ad-1+f.co<512∧(f.bits=16→0≤ad-1+f.fi∧ad-1+f.fi<512∧f.fi≠f.co)
structure RigOK (L:List (List PT)) (PL:List (PC × List Fea)) (X:List Fx):Prop where
 fit:∀ x ∈ X,∀ f ∈ featV PL x.pr,FitF x.ad f
 fitX:∀ x ∈ X,FitX PL x
 alone:∀ x ∈ X,∀ f ∈ featV PL x.pr,aloneE f L=0
 apart:∀ x ∈ X,(featV PL x.pr).Pairwise Apart
 over:X.Pairwise fun x y=>overB (PL.map Prod.fst) y x=false
 un:∀ x ∈ X,1≤x.un∧x.un≤8
theorem q00x {l:List Fea} {foot:Int} {n:Nat} (h:firstE (feaE l foot n) l.length=0):l.Pairwise Apart∧∀ f ∈ l,f.bits=16→f.fi≠f.co:=by
 have key:∀ i (hi:i<l.length),usedB (l.take i) l[i].co=false∧(l[i].bits=16→usedB (l.take i) l[i].fi=false∧l[i].fi≠l[i].co):=by
  intro i hi;have hE:=q89 h i hi;unfold feaE at hE;rw [qa1 hi] at hE
  by_cases e1:l[i].at_<0∨15≤l[i].at_
  ·rw [if_pos e1] at hE;cases hE
  rw [if_neg e1] at hE
  by_cases e2:(l.take i).any (fun x=>decide (x.at_=l[i].at_))=true
  ·rw [if_pos e2] at hE;cases hE
  rw [if_neg e2] at hE
  by_cases e3:bitsE l[i]≠0
  ·rw [if_pos e3] at hE;cases hE
  rw [if_neg e3] at hE
  by_cases e4:l[i].co<0∨foot≤l[i].co∨l[i].bits=16∧(l[i].fi<0∨foot≤l[i].fi)
  ·rw [if_pos e4] at hE;cases hE
  rw [if_neg e4] at hE
  by_cases e5:l[i].bits=8∧l[i].fi≠0
  ·rw [if_pos e5] at hE;cases hE
  rw [if_neg e5] at hE
  by_cases e6:usedB (l.take i) l[i].co=true∨l[i].bits=16∧(usedB (l.take i) l[i].fi=true∨l[i].fi=l[i].co)
  ·rw [if_pos e6] at hE;cases hE
  refine ⟨?_,fun h16=>⟨?_,fun hc=>e6 (.inr ⟨h16,.inr hc⟩)⟩⟩
  ·cases hu:usedB (l.take i) l[i].co with
   | true=>exact absurd (.inl hu) e6
   | false=>rfl
  ·cases hu:usedB (l.take i) l[i].fi with
   | true=>exact absurd (.inr ⟨h16,.inl hu⟩) e6
   | false=>rfl
 have no:∀ {m:List Fea} {o:Int} {f:Fea},usedB m o=false→f ∈ m→f.co≠o∧(f.bits=16→f.fi≠o):=by
  intro m o f hu hf;unfold usedB at hu;rw [List.any_eq_false] at hu
  have:=hu f hf
  simp only [Bool.or_eq_true,Bool.and_eq_true,decide_eq_true_eq,not_or,not_and] at this;exact this
 refine ⟨?_,fun f hf h16=>?_⟩
 ·rw [List.pairwise_iff_getElem]
  intro i j hi hj hij;obtain ⟨k1,k2⟩:=key j hj;have hm:l[i] ∈ l.take j:=by rw [← List.getElem_take (j:=j) (h:=by rw [List.length_take];omega)];exact List.getElem_mem _
  have h1:=no k1 hm;exact ⟨h1.1,h1.2,fun h16=>no (k2 h16).1 hm⟩
 ·obtain ⟨i,hi,rfl⟩:=List.getElem_of_mem hf
  exact ((key i hi).2 h16).2
theorem rig_ok {L:List (List PT)} {PL:List (PC × List Fea)} {X:List Fx} (h:uniE L PL X=0):RigOK L PL X:=by
 obtain ⟨-,-,hFx,hFe⟩:=qu8 h;have hfit:=fit_of h;have hpr:∀ i (hi:i<PL.length),profE PL[i].1.s PL[i].1.ft PL[i].1.wa PL[i].2 L=0:=by
  intro i hi;have h0:=h;unfold uniE at h0
  by_cases h1:errA L≠0
  ·rw [if_pos h1] at h0;exact absurd h0 h1
  rw [if_neg h1] at h0
  by_cases h2:32<PL.length
  ·rw [if_pos h2] at h0;cases h0
  rw [if_neg h2] at h0
  by_cases h3:firstE (prE L PL) PL.length≠0
  ·rw [if_pos h3] at h0;exact absurd h0 h3
  have hp:=q89 (Classical.not_not.1 h3) i hi;unfold prE at hp;rw [qa1 hi] at hp
  by_cases h5:profE PL[i].1.s PL[i].1.ft PL[i].1.wa PL[i].2 L≠0
  ·rw [if_pos h5] at hp;exact absurd hp h5
  ·exact Classical.not_not.1 h5
 have hfe:∀ x ∈ PL,firstE (feaE x.2 x.1.ft L.length) x.2.length=0:=by
  intro x hx;obtain ⟨i,hi,rfl⟩:=List.getElem_of_mem hx;have hp:=hpr i hi;unfold profE at hp
  by_cases h1:errA L≠0
  ·rw [if_pos h1] at hp;exact absurd hp h1
  rw [if_neg h1] at hp
  by_cases h2:nmB PL[i].1.s=false
  ·rw [if_pos h2] at hp;cases hp
  rw [if_neg h2] at hp
  by_cases h3:PL[i].1.ft<1∨512<PL[i].1.ft∨PL[i].1.wa<0∨1048576<PL[i].1.wa
  ·rw [if_pos h3] at hp;cases hp
  rw [if_neg h3] at hp
  by_cases h4:16<PL[i].2.length
  ·rw [if_pos h4] at hp;cases hp
  rw [if_neg h4] at hp;exact hp
 have hft:∀ s,(featV PL s).Pairwise Apart∧∀ f ∈ featV PL s,(f.bits=16→f.fi≠f.co)∧aloneE f L=0:=by
  intro s;unfold featV
  cases hq:PL.find? (fun x=>decide (x.1.s=s)) with
  | none=>exact ⟨List.Pairwise.nil,fun f hf=>absurd hf (List.not_mem_nil)⟩
  | some y =>
   have hy:=List.mem_of_find?_eq_some hq;obtain ⟨p1,p2⟩:=q00x (hfe y hy);exact ⟨p1,fun f hf=>⟨p2 f hf,(hFe y hy f hf).1⟩⟩
 have hrn:∀ x ∈ X,1≤x.un∧x.un≤8∧1≤x.ad∧x.ad+footV (PL.map Prod.fst) x.pr≤513:=by
  intro x hx;obtain ⟨i,hi,rfl⟩:=List.getElem_of_mem hx;obtain ⟨hr,-,h3,-⟩:=hFx i hi;unfold qkt at hr;simp only [Bool.and_eq_true,decide_eq_true_eq] at hr;exact ⟨hr.1.1.2.1,hr.1.1.2.2,hr.1.2.1,h3⟩
 refine ⟨fun x hx f hf=>?_,hfit,fun x hx f hf=>((hft x.pr).2 f hf).2,fun x _=>(hft x.pr).1,?_,fun x hx=>⟨(hrn x hx).1,(hrn x hx).2.1⟩⟩
 ·obtain ⟨-,q⟩:=hfit x hx
  obtain ⟨q1,q2,q3⟩:=q f hf;have q4:=hrn x hx;exact ⟨q2,by omega,by omega,fun h16=>⟨by have:=q3 h16;omega,by have:=q3 h16;omega,((hft x.pr).2 f hf).1 h16⟩⟩
 ·rw [List.pairwise_iff_getElem]
  intro i j hi hj hij;have h0:=h;unfold uniE at h0
  by_cases h1:errA L≠0
  ·rw [if_pos h1] at h0;exact absurd h0 h1
  rw [if_neg h1] at h0
  by_cases h2:32<PL.length
  ·rw [if_pos h2] at h0;cases h0
  rw [if_neg h2] at h0
  by_cases h3:firstE (prE L PL) PL.length≠0
  ·rw [if_pos h3] at h0;exact absurd h0 h3
  rw [if_neg h3] at h0;unfold patE at h0
  by_cases h4:32<(PL.map Prod.fst).length∨64<X.length
  ·rw [if_pos h4] at h0;cases h0
  rw [if_neg h4] at h0;have h5:=(fx_ok (q89 h0 j hj)).2.2;rw [qa1 hj,List.any_eq_false] at h5;have hm:X[i] ∈ X.take j:=by rw [← List.getElem_take (j:=j) (h:=by rw [List.length_take];omega)];exact List.getElem_mem _
  simpa using h5 _ hm
theorem raw_in {L:List (List PT)} {l:List Am} {ch:Int} {f:Fea} (h:aloneE f L=0):0≤rawF L l ch f∧rawF L l ch f≤topV f.bits:=by
 obtain ⟨hA,hb,hc1,hc2,-,h1,h2,h3,-⟩:=q0g h;unfold rawF rawV
 by_cases hr:rawE f L (toldT l ch f.at_ f.ho)≠0
 ·rw [if_pos hr];omega
 ·rw [if_neg hr]
  have:=qdm (qi7 hA hc1 hc2) h2 (valR (toldT l ch f.at_ f.ho).data.toList)
  omega
end

section
open Go.RowKit
theorem q012 {α:Type} {p:α→Bool}:∀ {l:List α} {x:α},x ∈ l→p x=true→¬ idxOf p l<0
 | [],_,h,_=>absurd h (List.not_mem_nil)
 | a :: l,x,h,hx=>by
  rw [idxOf]
  cases ha:p a with
  | true=>rw [if_pos rfl];decide
  | false =>
   rcases List.mem_cons.1 h with rfl | h
   ·rw [hx] at ha;cases ha
   ·have:=q012 h hx
    rw [if_neg Bool.false_ne_true,if_neg this];omega
theorem q01f (a:Nat):q00p.getD a 0=0:=by
 unfold q00p;rw [List.getD_eq_getElem?_getD,List.getElem?_replicate]
 split <;> rfl
end

end Go.Proofs.YtbfikenbgfnfiaaGreatDoor
