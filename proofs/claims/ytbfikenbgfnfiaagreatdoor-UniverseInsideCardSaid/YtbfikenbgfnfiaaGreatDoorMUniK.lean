/- Lemmas and contracts of functions, joined for the claim: UPlainS, UPlainT, URaw, UOut0. -/
import Derived.Test.YtbfikenbgfnfiaaGreatDoorMUniJ
import Derived.Test.YtbfikenbgfnfiaaGreatDoorMUniD
import Derived.Test.YtbfikenbgfnfiaaGreatDoorMShelfB
import Derived.Test.YtbfikenbgfnfiaaGreatDoorMUp
namespace Go.Proofs.YtbfikenbgfnfiaaGreatDoor
set_option maxHeartbeats 32000000
open _root_.Go.Proofs.Tryz

section
open Go.RowKit
def shV (pg:List UInt8) (ad:Int) (f:Fea):Int :=
 if f.bits=16 then 256*((pg.getD (ad-1+f.co).toNat 0).toNat:Int)+((pg.getD (ad-1+f.fi).toNat 0).toNat:Int) else ((pg.getD (ad-1+f.co).toNat 0).toNat:Int)
theorem q016 {pg pg':List UInt8} {ad:Int} {f:Fea} (h1:pg'[(ad-1+f.co).toNat]? = pg[(ad-1+f.co).toNat]?) (h2:f.bits=16→pg'[(ad-1+f.fi).toNat]? = pg[(ad-1+f.fi).toNat]?):shV pg' ad f=shV pg ad f:=by
 unfold shV;simp only [List.getD_eq_getElem?_getD];rw [h1]
 by_cases h:f.bits=16
 ·rw [if_pos h,if_pos h,h2 h]
 ·rw [if_neg h,if_neg h]
def Apart (f g:Fea):Prop:=f.co≠g.co∧(f.bits=16→f.fi≠g.co)∧(g.bits=16→f.co≠g.fi∧(f.bits=16→f.fi≠g.fi))
def FitF (ad:Int) (f:Fea):Prop:=(f.bits=8∨f.bits=16)∧0≤ad-1+f.co∧ad-1+f.co<512∧(f.bits=16→0≤ad-1+f.fi∧ad-1+f.fi<512∧f.fi≠f.co)
theorem q015 {pg:List UInt8} {ad:Int} {f g:Fea} {raw:Int} (h:Apart f g) (hf:FitF ad f) (hg:FitF ad g):shV (setF pg ad g raw) ad f=shV pg ad f:=by
 obtain ⟨a1,a2,a3⟩:=h;obtain ⟨-,f1,-,f3⟩:=hf;obtain ⟨g0,g1,-,g3⟩:=hg;refine q016 ?_ fun h16=>?_
 ·unfold setF
  by_cases h8:g.bits=8
  ·rw [if_pos h8,List.getElem?_set,if_neg (by omega)]
  ·have:=a3 (by omega)
   have:=g3 (by omega)
   rw [if_neg h8,List.getElem?_set,if_neg (by omega),List.getElem?_set,if_neg (by omega)]
 ·have:=f3 h16
  have:=a2 h16
  unfold setF
  by_cases h8:g.bits=8
  ·rw [if_pos h8,List.getElem?_set,if_neg (by omega)]
  ·have:=(a3 (by omega)).2 h16
   have:=g3 (by omega)
   rw [if_neg h8,List.getElem?_set,if_neg (by omega),List.getElem?_set,if_neg (by omega)]
theorem q01a {pg:List UInt8} {ad:Int} {f:Fea} {raw:Int} (hl:pg.length=512) (hf:FitF ad f) (h0:0≤raw) (h1:raw≤topV f.bits):shV (setF pg ad f raw) ad f=raw:=by
 obtain ⟨f0,f1,f2,f3⟩:=hf;unfold shV setF topV at *;simp only [List.getD_eq_getElem?_getD]
 by_cases h8:f.bits=8
 ·rw [if_pos h8] at h1
  rw [if_neg (by omega),if_pos h8,List.getElem?_set,if_pos rfl,if_pos (by omega)]
  exact qtj h0 h1
 ·have h16:f.bits=16:=by omega
  obtain ⟨k1,k2,k3⟩:=f3 h16;rw [if_neg h8] at h1;rw [if_pos h16,if_neg h8,List.getElem?_set,if_neg (by omega),List.getElem?_set,if_pos rfl,if_pos (by omega),List.getElem?_set,if_pos rfl,if_pos (by rw [List.length_set];omega)]
  show 256*((u8v (raw / 256)).toNat:Int)+((u8v (raw % 256)).toNat:Int)=raw
  rw [qtj (by omega) (by omega),qtj (by omega) (by omega)]
  omega
theorem q019 {L:List (List PT)} {l:List Am} {x:Fx} {f:Fea} (hf:FitF x.ad f) (F:List Fea) (hF:∀ g ∈ F,FitF x.ad g∧Apart f g):∀ pg:List UInt8,shV (setX L l x pg F) x.ad f=shV pg x.ad f:=by
 unfold setX
 induction F with
 | nil=>intro pg;rfl
 | cons g F ih =>
  intro pg;obtain ⟨hg,ha⟩:=hF g (List.mem_cons_self ..);rw [List.foldl_cons,ih (fun k hk=>hF k (List.mem_cons_of_mem _ hk)),q015 ha hf hg]
theorem q018 {L:List (List PT)} {l:List Am} {x:Fx} (F:List Fea) (hp:F.Pairwise Apart) (hF:∀ g ∈ F,FitF x.ad g∧0≤rawF L l x.ch g∧rawF L l x.ch g≤topV g.bits) {f:Fea} (hf:f ∈ F):∀ pg:List UInt8,pg.length=512→shV (setX L l x pg F) x.ad f=rawF L l x.ch f:=by
 induction F with
 | nil=>exact absurd hf (List.not_mem_nil)
 | cons g F ih =>
  intro pg hl;have hp':=List.pairwise_cons.1 hp;have hs:setX L l x pg (g :: F)=setX L l x (setF pg x.ad g (rawF L l x.ch g)) F:=rfl;rw [hs]
  rcases List.mem_cons.1 hf with rfl | hf
  ·obtain ⟨h1,h2,h3⟩:=hF f (List.mem_cons_self ..)
   rw [q019 h1 F (fun k hk=>⟨(hF k (List.mem_cons_of_mem _ hk)).1,hp'.1 k hk⟩),q01a hl h1 h2 h3]
  ·exact ih hp'.2 (fun k hk=>hF k (List.mem_cons_of_mem _ hk)) hf _ (by rw [qpd];exact hl)
structure RigOK (L:List (List PT)) (PL:List (PC × List Fea)) (X:List Fx):Prop where
 fit:∀ x ∈ X,∀ f ∈ featV PL x.pr,FitF x.ad f
 fitX:∀ x ∈ X,FitX PL x
 alone:∀ x ∈ X,∀ f ∈ featV PL x.pr,aloneE f L=0
 apart:∀ x ∈ X,(featV PL x.pr).Pairwise Apart
 over:X.Pairwise fun x y=>overB (PL.map Prod.fst) y x=false
 un:∀ x ∈ X,1≤x.un∧x.un≤8
theorem q00x {l:List Fea} {foot:Int} {n:Nat} (h:firstE (feaE l foot n) l.length=0):l.Pairwise Apart∧∀ f ∈ l,f.bits=16→f.fi≠f.co:=by
 have key:∀ i (hi:i<l.length),usedB (l.take i) l[i].co=false∧(l[i].bits=16→usedB (l.take i) l[i].fi=false∧l[i].fi≠l[i].co):=by
  intro i hi;have hE:=q89 h i hi;unfold feaE at hE;rw [qa1 hi] at hE
  by_cases e1:l[i].at_<0∨15≤l[i].at_
  ·rw [if_pos e1] at hE;cases hE
  rw [if_neg e1] at hE
  by_cases e2:(l.take i).any (fun x=>decide (x.at_=l[i].at_))=true
  ·rw [if_pos e2] at hE;cases hE
  rw [if_neg e2] at hE
  by_cases e3:bitsE l[i]≠0
  ·rw [if_pos e3] at hE;cases hE
  rw [if_neg e3] at hE
  by_cases e4:l[i].co<0∨foot≤l[i].co∨l[i].bits=16∧(l[i].fi<0∨foot≤l[i].fi)
  ·rw [if_pos e4] at hE;cases hE
  rw [if_neg e4] at hE
  by_cases e5:l[i].bits=8∧l[i].fi≠0
  ·rw [if_pos e5] at hE;cases hE
  rw [if_neg e5] at hE
  by_cases e6:usedB (l.take i) l[i].co=true∨l[i].bits=16∧(usedB (l.take i) l[i].fi=true∨l[i].fi=l[i].co)
  ·rw [if_pos e6] at hE;cases hE
  refine ⟨?_,fun h16=>⟨?_,fun hc=>e6 (.inr ⟨h16,.inr hc⟩)⟩⟩
  ·cases hu:usedB (l.take i) l[i].co with
   | true=>exact absurd (.inl hu) e6
   | false=>rfl
  ·cases hu:usedB (l.take i) l[i].fi with
   | true=>exact absurd (.inr ⟨h16,.inl hu⟩) e6
   | false=>rfl
 have no:∀ {m:List Fea} {o:Int} {f:Fea},usedB m o=false→f ∈ m→f.co≠o∧(f.bits=16→f.fi≠o):=by
  intro m o f hu hf;unfold usedB at hu;rw [List.any_eq_false] at hu
  have:=hu f hf
  simp only [Bool.or_eq_true,Bool.and_eq_true,decide_eq_true_eq,not_or,not_and] at this;exact this
 refine ⟨?_,fun f hf h16=>?_⟩
 ·rw [List.pairwise_iff_getElem]
  intro i j hi hj hij;obtain ⟨k1,k2⟩:=key j hj;have hm:l[i] ∈ l.take j:=by rw [← List.getElem_take (j:=j) (h:=by rw [List.length_take];omega)];exact List.getElem_mem _
  have h1:=no k1 hm;exact ⟨h1.1,h1.2,fun h16=>no (k2 h16).1 hm⟩
 ·obtain ⟨i,hi,rfl⟩:=List.getElem_of_mem hf
  exact ((key i hi).2 h16).2
theorem rig_ok {L:List (List PT)} {PL:List (PC × List Fea)} {X:List Fx} (h:uniE L PL X=0):RigOK L PL X:=by
 obtain ⟨-,-,hFx,hFe⟩:=qu8 h;have hfit:=fit_of h;have hpr:∀ i (hi:i<PL.length),profE PL[i].1.s PL[i].1.ft PL[i].1.wa PL[i].2 L=0:=by
  intro i hi;have h0:=h;unfold uniE at h0
  by_cases h1:errA L≠0
  ·rw [if_pos h1] at h0;exact absurd h0 h1
  rw [if_neg h1] at h0
  by_cases h2:32<PL.length
  ·rw [if_pos h2] at h0;cases h0
  rw [if_neg h2] at h0
  by_cases h3:firstE (prE L PL) PL.length≠0
  ·rw [if_pos h3] at h0;exact absurd h0 h3
  have hp:=q89 (Classical.not_not.1 h3) i hi;unfold prE at hp;rw [qa1 hi] at hp
  by_cases h5:profE PL[i].1.s PL[i].1.ft PL[i].1.wa PL[i].2 L≠0
  ·rw [if_pos h5] at hp;exact absurd hp h5
  ·exact Classical.not_not.1 h5
 have hfe:∀ x ∈ PL,firstE (feaE x.2 x.1.ft L.length) x.2.length=0:=by
  intro x hx;obtain ⟨i,hi,rfl⟩:=List.getElem_of_mem hx;have hp:=hpr i hi;unfold profE at hp
  by_cases h1:errA L≠0
  ·rw [if_pos h1] at hp;exact absurd hp h1
  rw [if_neg h1] at hp
  by_cases h2:nmB PL[i].1.s=false
  ·rw [if_pos h2] at hp;cases hp
  rw [if_neg h2] at hp
  by_cases h3:PL[i].1.ft<1∨512<PL[i].1.ft∨PL[i].1.wa<0∨1048576<PL[i].1.wa
  ·rw [if_pos h3] at hp;cases hp
  rw [if_neg h3] at hp
  by_cases h4:16<PL[i].2.length
  ·rw [if_pos h4] at hp;cases hp
  rw [if_neg h4] at hp;exact hp
 have hft:∀ s,(featV PL s).Pairwise Apart∧∀ f ∈ featV PL s,(f.bits=16→f.fi≠f.co)∧aloneE f L=0:=by
  intro s;unfold featV
  cases hq:PL.find? (fun x=>decide (x.1.s=s)) with
  | none=>exact ⟨List.Pairwise.nil,fun f hf=>absurd hf (List.not_mem_nil)⟩
  | some y =>
   have hy:=List.mem_of_find?_eq_some hq;obtain ⟨p1,p2⟩:=q00x (hfe y hy);exact ⟨p1,fun f hf=>⟨p2 f hf,(hFe y hy f hf).1⟩⟩
 have hrn:∀ x ∈ X,1≤x.un∧x.un≤8∧1≤x.ad∧x.ad+footV (PL.map Prod.fst) x.pr≤513:=by
  intro x hx;obtain ⟨i,hi,rfl⟩:=List.getElem_of_mem hx;obtain ⟨hr,-,h3,-⟩:=hFx i hi;unfold qkt at hr;simp only [Bool.and_eq_true,decide_eq_true_eq] at hr;exact ⟨hr.1.1.2.1,hr.1.1.2.2,hr.1.2.1,h3⟩
 refine ⟨fun x hx f hf=>?_,hfit,fun x hx f hf=>((hft x.pr).2 f hf).2,fun x _=>(hft x.pr).1,?_,fun x hx=>⟨(hrn x hx).1,(hrn x hx).2.1⟩⟩
 ·obtain ⟨-,q⟩:=hfit x hx
  obtain ⟨q1,q2,q3⟩:=q f hf;have q4:=hrn x hx;exact ⟨q2,by omega,by omega,fun h16=>⟨by have:=q3 h16;omega,by have:=q3 h16;omega,((hft x.pr).2 f hf).1 h16⟩⟩
 ·rw [List.pairwise_iff_getElem]
  intro i j hi hj hij;have h0:=h;unfold uniE at h0
  by_cases h1:errA L≠0
  ·rw [if_pos h1] at h0;exact absurd h0 h1
  rw [if_neg h1] at h0
  by_cases h2:32<PL.length
  ·rw [if_pos h2] at h0;cases h0
  rw [if_neg h2] at h0
  by_cases h3:firstE (prE L PL) PL.length≠0
  ·rw [if_pos h3] at h0;exact absurd h0 h3
  rw [if_neg h3] at h0;unfold patE at h0
  by_cases h4:32<(PL.map Prod.fst).length∨64<X.length
  ·rw [if_pos h4] at h0;cases h0
  rw [if_neg h4] at h0;have h5:=(fx_ok (q89 h0 j hj)).2.2;rw [qa1 hj,List.any_eq_false] at h5;have hm:X[i] ∈ X.take j:=by rw [← List.getElem_take (j:=j) (h:=by rw [List.length_take];omega)];exact List.getElem_mem _
  simpa using h5 _ hm
theorem raw_in {L:List (List PT)} {l:List Am} {ch:Int} {f:Fea} (h:aloneE f L=0):0≤rawF L l ch f∧rawF L l ch f≤topV f.bits:=by
 obtain ⟨hA,hb,hc1,hc2,-,h1,h2,h3,-⟩:=q0g h;unfold rawF rawV
 by_cases hr:rawE f L (toldT l ch f.at_ f.ho)≠0
 ·rw [if_pos hr];omega
 ·rw [if_neg hr]
  have:=qdm (qi7 hA hc1 hc2) h2 (valR (toldT l ch f.at_ f.ho).data.toList)
  omega
theorem q014 {L:List (List PT)} {l:List Am} {ch:Int} {f:Fea} (h:aloneE f L=0) (hc:chkR (toldT l ch f.at_ f.ho).data.toList=0):f.lo≤rawF L l ch f∧rawF L l ch f≤f.hi:=by
 obtain ⟨hA,hb,hc1,hc2,-,h1,h2,h3,-⟩:=q0g h;unfold rawF rawV;rw [if_neg (fun hn=>hn (q7i h hc))]
 exact qdm (qi7 hA hc1 hc2) h2 _
theorem q017 {L:List (List PT)} {l:List Am} {PL:List (PC × List Fea)} {x:Fx} {f:Fea} (hf:FitF x.ad f) (hi:(0≤f.co∧f.co<footV (PL.map Prod.fst) x.pr)∧(f.bits=16→0≤f.fi∧f.fi<footV (PL.map Prod.fst) x.pr)) (X:List Fx) (hX:∀ y ∈ X,FitX PL y∧overB (PL.map Prod.fst) y x=false) :
  ∀ pg:List UInt8,shV (X.foldl (fun pg y=>if y.un=x.un then setX L l y pg (featV PL y.pr) else pg) pg) x.ad f=shV pg x.ad f:=by
 induction X with
 | nil=>intro pg;rfl
 | cons y X ih =>
  intro pg;rw [List.foldl_cons,ih (fun z hz=>hX z (List.mem_cons_of_mem _ hz))]
  by_cases hu:y.un=x.un
  ·rw [if_pos hu]
   obtain ⟨⟨h1,hy⟩,ho⟩:=hX y (List.mem_cons_self ..);unfold overB at ho;rw [decide_eq_true hu.symm,Bool.true_and,Bool.and_eq_false_iff,decide_eq_false_iff_not,decide_eq_false_iff_not] at ho;obtain ⟨-,f1,f2,f3⟩:=hf;refine q016 ?_ fun h16=>?_
   ·exact qpg h1 (by omega) _ hy _
   ·have:=f3 h16
    have:=hi.2 h16
    exact qpg h1 (by omega) _ hy _
  ·rw [if_neg hu]
theorem shown {L:List (List PT)} {l:List Am} {PL:List (PC × List Fea)} {X:List Fx} (h:RigOK L PL X) {x:Fx} (hx:x ∈ X) {f:Fea} (hf:f ∈ featV PL x.pr):shV (pageV L l PL X x.un) x.ad f=rawF L l x.ch f:=by
 have key:∀ (X':List Fx),(∀ y ∈ X',y ∈ X)→X'.Pairwise (fun x y=>overB (PL.map Prod.fst) y x=false)→x ∈ X'→∀ pg:List UInt8,pg.length=512→shV (X'.foldl (fun pg y=>if y.un=x.un then setX L l y pg (featV PL y.pr) else pg) pg) x.ad f=rawF L l x.ch f:=by
  intro X'
  induction X' with
  | nil=>intro _ _ hm;exact absurd hm (List.not_mem_nil)
  | cons y X' ih =>
   intro hs hp hm pg hl;rw [List.foldl_cons];have hp':=List.pairwise_cons.1 hp
   rcases List.mem_cons.1 hm with rfl | hm
   ·rw [if_pos rfl]
    obtain ⟨-,q⟩:=h.fitX x hx;rw [q017 (h.fit x hx f hf) ⟨(q f hf).1,(q f hf).2.2⟩ X' (fun z hz=>⟨h.fitX z (hs z (List.mem_cons_of_mem _ hz)),hp'.1 z hz⟩)]
    exact q018 _ (h.apart x hx) (fun g hg=>⟨h.fit x hx g hg,raw_in (h.alone x hx g hg)⟩) hf _ hl
   ·refine ih (fun z hz=>hs z (List.mem_cons_of_mem _ hz)) hp'.2 hm _ ?_
    by_cases hu:y.un=x.un
    ·rw [if_pos hu,qph];exact hl
    ·rw [if_neg hu];exact hl
 exact key X (fun _ hy=>hy) h.over hx _ List.length_replicate
end

section
open Go.RowKit
theorem q013 {a b:Nat} (ha:a<256) (hb:b<256):bits .or .i64 (256*(a:Int)) (b:Int)=256*(a:Int)+(b:Int):=by
 have h:=Nat.shiftLeft_add_eq_or_of_lt (i:=8) (b:=b) (by omega) a
 rw [Nat.shiftLeft_eq] at h;unfold bits;show IntKind.i64.wrap (((BitVec.ofInt 64 (256*(a:Int)) ||| BitVec.ofInt 64 (b:Int)).toNat:Nat):Int)=_
 rw [show (256*(a:Int))=((256*a:Nat):Int) by omega,BitVec.ofInt_natCast,BitVec.ofInt_natCast,BitVec.toNat_or,BitVec.toNat_ofNat,BitVec.toNat_ofNat,Nat.mod_eq_of_lt (by omega),Nat.mod_eq_of_lt (by omega),show 256*a=a*2 ^ 8 by omega,← h]
 exact IntWalk.i64_in _ (by omega)
theorem byV_at {pg:List UInt8} {a:Nat} (h:a<pg.length):(byV pg)[a]? = some (.int .u8 ((pg.getD a 0).toNat:Int)):=by
 unfold byV;rw [List.getElem?_map,List.getElem?_eq_getElem h,qa1 h]
 rfl
set_option maxRecDepth 100000 in
theorem q01e (B cap:Nat) (pg:List UInt8) (x:Fx) (f:FC) (wl:List Slt) (w:World) (hR:Cells w B (byV pg)) (hl:pg.length=512) (had:1≤x.ad∧x.ad≤512) (hf:FitF x.ad (f.fea wl)) :
  Calls prog 74 #[.slice (some ⟨B,0,none⟩) 512 cap,x.val,f.val] w fun e w'=>e=.returned (.int .i64 (shV pg x.ad (f.fea wl)))∧Below w.heap.size w w':=by
 obtain ⟨ch,pt,pr,un,ad,ph,cb⟩:=x;obtain ⟨at_,bits,co,fi,cu,ho,lo,hi,sn,A,n,c⟩:=f
 obtain ⟨f0,f1,f2,f3⟩:=hf;dsimp only [FC.fea] at had f0 f1 f2 f3;obtain ⟨a,ha⟩:∃ a:Nat,(a:Int)=ad-1+co:=⟨(ad-1+co).toNat,by omega⟩
 have hv:shV pg ad (FC.fea ⟨at_,bits,co,fi,cu,ho,lo,hi,sn,A,n,c⟩ wl)=if bits=16 then 256*((pg.getD a 0).toNat:Int)+((pg.getD (ad-1+fi).toNat 0).toNat:Int) else ((pg.getD a 0).toNat:Int):=by
  rw [show a=(ad-1+co).toNat by omega]
  rfl
 show Calls prog 74 #[.slice (some ⟨B,0,none⟩) 512 cap,.agg #[.int .i64 ch,.int .i64 pt,.string pr,.int .i64 un,.int .i64 ad,.int .i64 ph,.string cb],.agg #[.int .i64 at_,.int .i64 bits,.int .i64 co,.int .i64 fi,.int .i64 cu,.int .i64 ho,.int .i64 lo,.int .i64 hi,.bool sn,.slice A n c]] w fun e w'=>e=.returned (.int .i64 (shV pg ad (FC.fea ⟨at_,bits,co,fi,cu,ho,lo,hi,sn,A,n,c⟩ wl)))∧Below w.heap.size w w'
 rw [hv];have e1:IntKind.i64.wrap (ad-1)=ad-1:=IntWalk.i64_in _ (by omega)
 have e2:IntKind.i64.wrap (ad-1+co)=(a:Int):=by rw [ha];exact IntWalk.i64_in _ (by omega)
 have hx:(pg.getD a 0).toNat<256:=UInt8.toNat_lt _;have pa:=byV_at (pg:=pg) (a:=a) (by omega)
 generalize (pg.getD a 0).toNat=X at *;have e3:IntKind.i64.wrap (X:Int)=(X:Int):=IntWalk.i64_in _ (by omega)
 have i1:(a:Int)<512:=by omega
 have p1:=hR.at_ (j:=a) pa
 have m1:B<w.heap.size:=hR.1;have m2:¬ B=w.heap.size:=by omega
 have m3:B<w.heap.size+1:=by omega
 have m4:¬ B=w.heap.size+1:=by omega
 clear pa hv
 by_cases h16:bits=16
 ·obtain ⟨g1,g2,-⟩:=f3 h16
  obtain ⟨b,hb⟩:∃ b:Nat,(b:Int)=ad-1+fi:=⟨(ad-1+fi).toNat,by omega⟩
  rw [if_pos h16,show (ad-1+fi).toNat=b by omega]
  have e4:IntKind.i64.wrap (ad-1+fi)=(b:Int):=by rw [hb];exact IntWalk.i64_in _ (by omega)
  have hy:(pg.getD b 0).toNat<256:=UInt8.toNat_lt _;have p2:=hR.at_ (j:=b) (byV_at (pg:=pg) (a:=b) (by omega))
  generalize (pg.getD b 0).toNat=Y at *;have e5:IntKind.i64.wrap (Y:Int)=(Y:Int):=IntWalk.i64_in _ (by omega)
  have e6:wrap64 ((X:Int)*256)=256*(X:Int):=by unfold wrap64;omega
  have e7:=q013 hx hy;have i2:(b:Int)<512:=by omega
  have z:(bits == 16)=true:=by simpa using h16
  clear h16 f0 f1 f2 f3 g1 g2 had ha hb hx hy hR hl
  go_enter func74,ntmps74
  go_wp2_with fail;go_ret;exact ⟨qlz (by first | rfl | exact e7 | (rw [e6];exact e7)),by (repeat' first | exact Below.refl _ _ | assumption | apply Below.drew | apply q18 | refine Below.alloc ?_ ?_ _ | refine Below.setCell ?_ ?_ _ | refine Below.trans ?_ (Below.mono ‹_› ?_) | omega | (simp;omega) | simp)⟩
 ·rw [if_neg h16]
  have z:(bits == 16)=false:=by simpa using h16
  clear h16 f0 f1 f2 f3 had ha hx hR hl
  go_enter func74,ntmps74
  go_wp2_with fail;go_ret;exact ⟨rfl,by (repeat' first | exact Below.refl _ _ | assumption | apply Below.drew | apply q18 | refine Below.alloc ?_ ?_ _ | refine Below.setCell ?_ ?_ _ | refine Below.trans ?_ (Below.mono ‹_› ?_) | omega | (simp;omega) | simp)⟩
end

section
open Go.RowKit
def pgOf (l:List Fm) (u:Int):List UInt8:=(l.getD (plI l u).toNat fm0).sl.data.toList
theorem q012 {α:Type} {p:α→Bool}:∀ {l:List α} {x:α},x ∈ l→p x=true→¬ idxOf p l<0
 | [],_,h,_=>absurd h (List.not_mem_nil)
 | a :: l,x,h,hx=>by
  rw [idxOf]
  cases ha:p a with
  | true=>rw [if_pos rfl];decide
  | false =>
   rcases List.mem_cons.1 h with rfl | h
   ·rw [hx] at ha;cases ha
   ·have:=q012 h hx
    rw [if_neg Bool.false_ne_true,if_neg this];omega
theorem q011 {used:Int→Bool} {c:Int→List UInt8} {u:Int} (h1:1≤u) (hu:used u=true):∀ n:Nat,u≤(n:Int)→∃ x ∈ frmG used c n,x.un=u
 | 0,h=>absurd h (by omega)
 | n+1,h=>by
  rw [frmG]
  by_cases hn:u≤(n:Int)
  ·obtain ⟨x,hx,e⟩:=q011 h1 hu n hn
   exact ⟨x,List.mem_append_left _ hx,e⟩
  ·have e:u=(n:Int)+1:=by omega
   rw [e] at hu;rw [hu,if_pos rfl];exact ⟨_,List.mem_append_right _ (List.mem_singleton.2 rfl),e.symm⟩
theorem pl_at {l:List Fm} {u:Int} (h:∃ x ∈ l,x.un=u):∃ k:Nat,∃ hk:k<l.length,plI l u=k∧l[k].un=u:=by
 obtain ⟨x,hx,e⟩:=h;have h0:=q012 (p:=fun f:Fm=>decide (f.un=u)) hx (by simpa using e)
 have hlt:=qbb (p:=fun f:Fm=>decide (f.un=u)) l
 obtain ⟨k,hk⟩:∃ k:Nat,idxOf (fun f:Fm=>decide (f.un=u)) l=k:=⟨(idxOf (fun f:Fm=>decide (f.un=u)) l).toNat,by omega⟩
 have hkl:k<l.length:=by omega
 exact ⟨k,hkl,hk,by simpa using qba hkl hk⟩
theorem q00z {used:Int→Bool} {c:Int→List UInt8} {n:Nat} {u:Int} (h:∃ x ∈ frmG used c n,x.un=u):¬ plI (frmG used c n) u<0∧pgOf (frmG used c n) u=c u:=by
 obtain ⟨k,hk,hp,hun⟩:=pl_at h;refine ⟨by omega,?_⟩
 unfold pgOf;rw [hp,Int.toNat_natCast,qa1 hk,q9m used c n _ (List.getElem_mem hk),hun]
theorem q01f (a:Nat):q00p.getD a 0=0:=by
 unfold q00p;rw [List.getD_eq_getElem?_getD,List.getElem?_replicate]
 split <;> rfl
theorem q00y {L:List (List PT)} {PL:List (PC × List Fea)} {X:List Fx} {l:List Am} (hu:uniE L PL X=0) (hg:givE l=0) (hs:∀ a ∈ l,a.lev.size≤120) {x:Fx} (hx:x ∈ X) :
  ¬ plI (frmG (usedU X) (pageV L l PL X) 8) x.un<0∧∀ f ∈ featV PL x.pr,f.lo≤shV (pgOf (frmG (usedU X) (pageV L l PL X) 8) x.un) x.ad f∧shV (pgOf (frmG (usedU X) (pageV L l PL X) 8) x.un) x.ad f≤f.hi:=by
 have hr:=rig_ok hu;have hun:=hr.un x hx;have hus:usedU X x.un=true:=by unfold usedU;exact List.any_eq_true.2 ⟨x,hx,by simp⟩
 obtain ⟨h1,h2⟩:=q00z (q011 (c:=pageV L l PL X) hun.1 hus 8 hun.2);refine ⟨h1,fun f hf=>?_⟩
 rw [h2,shown hr hx hf];have ha:=hr.alone x hx f hf;exact q014 ha (qsl hg hs (q0f ha)).1
theorem q010 {L:List (List PT)} {PL:List (PC × List Fea)} {X:List Fx} {l:List Am} (hu:uniE L PL X=0) {x:Fm} (hx:x ∈ frmG (usedU X) (pageV L l PL X) 8) {a:Int} (h1:1≤a) (h2:a≤512) :
  slE (frmG (usedU X) (pageV L l PL X) 8) x.un a=0∧(X.any (fun y=>usesB (PL.map Prod.fst) y x.un a)=false→slV (frmG (usedU X) (pageV L l PL X) 8) x.un a=0):=by
 obtain ⟨hp,hg⟩:=q00z (n:=8) ⟨x,hx,rfl⟩;have hr0:rightE (frmG (usedU X) (pageV L l PL X) 8)=0:=qmd (q9l _ _ (fun u=>qg7 L l PL u X) 8 (Nat.le_refl _)).1 (q9k _ _ 8)
 have hE:slE (frmG (usedU X) (pageV L l PL X) 8) x.un a=0:=by
  unfold slE;rw [if_neg (fun h=>h hr0),if_neg (by omega),if_neg hp]
 refine ⟨hE,fun hany=>?_⟩
 unfold slV;rw [if_neg (fun h=>h hE)]
 change (((pgOf (frmG (usedU X) (pageV L l PL X) 8) x.un).getD (a-1).toNat 0).toNat:Int)=0;have hz:=qgb (L:=L) (l:=l) (PL:=PL) (u:=x.un) (a:=(a-1).toNat) X (rig_ok hu).fitX (fun y hy=>by
  rw [List.any_eq_false] at hany
  have:=hany y hy
  rw [show ((a-1).toNat:Int)+1=a by omega]
  simpa using this)
 rw [hg,List.getD_eq_getElem?_getD,hz,← List.getD_eq_getElem?_getD,q01f]
 rfl
end

section
open Go.RowKit
def bothE (L:List (List PT)) (PL:List (PC × List Fea)) (X:List Fx) (l:List Fm):Int:=if uniE L PL X≠0 then uniE L PL X else rightE l
set_option maxRecDepth 100000 in
theorem q01c (A0:Option Addr) (n0 d0:Nat) (H:List Hd) (L:List (List PT)) (A1:Option Addr) (n1 d1:Nat) (PL:List (PC × List Fea)) (A2:Option Addr) (n2 d2:Nat) (X:List Fx) (A:Option Addr) (n c:Nat) (l:List Fm) (w:World)
  (hl:InN w A0 n0 H L) (hm:∀ h ∈ H,h.n≤9223372036854775807) (hp:InPs w A1 n1 PL) (hn1:n1≤9223372036854775806) (hx:shX.In w A2 n2 X) (hn2:n2≤d2) (hd2:d2≤9223372036854775807) (hcb:∀ x ∈ X,x.cb.size≤9223372036854775807)
  (hf:shFm.In w A n l) (hn:n≤9223372036854775806) (hs:∀ x ∈ l,x.sl.size≤9223372036854775807) :
  Calls prog 73 #[.agg #[.slice A0 n0 d0,.slice A1 n1 d1,.slice A2 n2 d2],.slice A n c] w fun e w'=>e=.returned (.int .i64 (bothE L PL X l))∧Below w.heap.size w w':=by
 have HCk:=Lib.hid (fun w h1 h2 h3=>qtm A0 n0 d0 H L A1 n1 d1 PL A2 n2 d2 X w h1 hm h2 hn1 h3 hn2 hd2 hcb)
 have HRt:=Lib.hid (fun w h=>qyl A n c l w h hn hs)
 have hE:bothE L PL X l=if uniE L PL X≠0 then uniE L PL X else rightE l:=rfl
 obtain ⟨W,hW⟩:∃ W,W=(w.alloc (.cells #[.slice A0 n0 d0,.slice A1 n1 d1,.slice A2 n2 d2] 26)):=⟨_,rfl⟩;obtain ⟨hB0,hK0⟩:=box1 #[.slice A0 n0 d0,.slice A1 n1 d1,.slice A2 n2 d2] 26 w W hW;have hK:∀ w',Below W.heap.size W w'→w'.cell? ⟨w.heap.size,0,none⟩=some (.slice A0 n0 d0)∧w'.cell? ⟨w.heap.size,1,none⟩=some (.slice A1 n1 d1)∧w'.cell? ⟨w.heap.size,2,none⟩=some (.slice A2 n2 d2):=fun w' h=>⟨(hK0 w' h) 0 _ rfl,(hK0 w' h) 1 _ rfl,(hK0 w' h) 2 _ rfl⟩
 have HK:=Lib.hid hK;have HW:=Lib.hid hW;have HB0:=Lib.hid hB0;have hB:=Below.refl W.heap.size W;obtain ⟨c0,c1,c2⟩:=hK W hB;clear hW hB0 hK hK0;have HL:=Lib.hid (hl.below HB0.out);have HP:=Lib.hid (hp.below HB0.out);have HX:=Lib.hid (hx.below HB0.out);have HF:=Lib.hid (hf.below HB0.out);generalize bothE L PL X l=E at *;generalize uniE L PL X=U at *;generalize rightE l=R at *;clear hl hm hp hn1 hx hn2 hd2 hcb hf hn hs
 by_cases hu:U=0
 ·rw [if_neg (fun h=>h hu)] at hE
  subst hu hE
  go_enter func73,ntmps73
  go_wp2_with fail;rw [← HW.out];refine uq_ (HCk.out _ (HL.out.below hB) (HP.out.below hB) (HX.out.below hB)) hB ?_;clear hB;intro wk hB;go_wp2_with fail;refine uq_ (HRt.out _ (HF.out.below hB)) hB ?_;clear hB;intro wk hB;go_wp2_with fail;go_ret;exact ⟨rfl,HB0.out.trans (hB.mono HB0.out.size)⟩
 ·rw [if_pos hu] at hE
  have g1:(U == 0)=false:=by simpa using hu
  have g2:(U != 0)=true:=by simpa using hu
  subst hE
  go_enter func73,ntmps73
  go_wp2_with fail;rw [← HW.out];refine uq_ (HCk.out _ (HL.out.below hB) (HP.out.below hB) (HX.out.below hB)) hB ?_;clear hB;intro wk hB;go_wp2_with fail;go_ret;exact ⟨rfl,HB0.out.trans (hB.mono HB0.out.size)⟩
set_option maxRecDepth 100000 in
theorem q01d (w:World):Calls prog 77 #[.slice none 0 0] w fun e w'=>e=.returned (.slice none 0 0)∧w' = w:=by
 go_enter func77,ntmps77
 go_wp2_with fail;go_ret;exact ⟨rfl,rfl⟩
theorem usort0 (w:World):Calls prog 75 #[.slice none 0 0,.func (.func 76) #[] #[]] w fun e w'=>e=.returned (.tuple #[])∧w' = w :=
 slices_SortFunc_none_f75 (α:=Unit) none 0 _ w
set_option maxRecDepth 100000 in
theorem q01b (A0:Option Addr) (n0 d0:Nat) (H:List Hd) (L:List (List PT)) (A1:Option Addr) (n1 d1:Nat) (PL:List (PC × List Fea)) (A2:Option Addr) (n2 d2:Nat) (X:List Fx) (A:Option Addr) (n c:Nat) (l:List Fm) (w:World)
  (hl:InN w A0 n0 H L) (hm:∀ h ∈ H,h.n≤9223372036854775807) (hp:InPs w A1 n1 PL) (hn1:n1≤9223372036854775806) (hx:shX.In w A2 n2 X) (hn2:n2≤d2) (hd2:d2≤9223372036854775807) (hcb:∀ x ∈ X,x.cb.size≤9223372036854775807)
  (hf:shFm.In w A n l) (hn:n≤9223372036854775806) (hs:∀ x ∈ l,x.sl.size≤9223372036854775807) (hu:uniE L PL X=0) (hr:rightE l=0)
  (hin:∀ x ∈ X,¬ plI l x.un<0∧∀ f ∈ featV PL x.pr,f.lo≤shV (pgOf l x.un) x.ad f∧shV (pgOf l x.un) x.ad f≤f.hi) :
  Calls prog 27 #[.agg #[.slice A0 n0 d0,.slice A1 n1 d1,.slice A2 n2 d2],.slice A n c] w fun e w'=>e=.returned (.tuple #[.slice none 0 0,.int .i64 0])∧Below w.heap.size w w':=by
 have HBo:=Lib.hid (fun w h1 h2 h3 h4=>q01c A0 n0 d0 H L A1 n1 d1 PL A2 n2 d2 X A n c l w h1 hm h2 hn1 h3 hn2 hd2 hcb h4 hn hs)
 have hbo:bothE L PL X l=0:=by unfold bothE;rw [if_neg (fun h=>h hu),hr]
 rw [hbo] at HBo;have HRd:=Lib.hid (fun w h=>qyk A n c l w h hr)
 have HPf:=Lib.hid (fun (x:Fx) (p:PC) w h1 h2=>qyj A0 n0 d0 A1 n1 d1 A2 n2 d2 (PL.map Prod.fst) x p w h1 hn1 h2)
 have HS0:=Lib.hid (fun w=>usort0 w)
 have HC0:=Lib.hid (fun w=>q01d w)
 have HIn:=Lib.hid hin;have HRk:=Lib.hid (rig_ok hu);have HFx:=Lib.hid (qu8 hu).2.2.1;have HX64:=Lib.hid (qu8 hu).2.1;have HSz:=Lib.hid (fun i (h:i<l.length)=>show l[i].sl.size=512 from by have:=(rg_ok ((q9q hr).2 i h)).2.2.1;rw [qa1 h] at this;exact this)
 obtain rfl:n2=X.length:=hx.1;obtain ⟨W,hW⟩:∃ W,W=(w.alloc (.cells #[.slice A0 n0 d0,.slice A1 n1 d1,.slice A2 X.length d2] 26)):=⟨_,rfl⟩;obtain ⟨hB0,hK0⟩:=box1 #[.slice A0 n0 d0,.slice A1 n1 d1,.slice A2 X.length d2] 26 w W hW;have hK:∀ w',Below W.heap.size W w'→w'.cell? ⟨w.heap.size,0,none⟩=some (.slice A0 n0 d0)∧w'.cell? ⟨w.heap.size,1,none⟩=some (.slice A1 n1 d1)∧w'.cell? ⟨w.heap.size,2,none⟩=some (.slice A2 X.length d2):=fun w' h=>⟨(hK0 w' h) 0 _ rfl,(hK0 w' h) 1 _ rfl,(hK0 w' h) 2 _ rfl⟩
 have HK:=Lib.hid hK;have HW:=Lib.hid hW;have HB0:=Lib.hid hB0;have hB:=Below.refl W.heap.size W;obtain ⟨c0,c1,c2⟩:=hK W hB;clear hW hB0 hK hK0;have HL:=Lib.hid (hl.below HB0.out);have HP:=Lib.hid (hp.below HB0.out);have HX:=Lib.hid (hx.below HB0.out);have HF:=Lib.hid (hf.below HB0.out);clear hl hm hp hn1 hx hn2 hd2 hcb hf hn hs hu hr hin hbo
 go_enter func27,ntmps27
 go_wp2_with fail;rw [← HW.out];refine uq_ (HBo.out _ (HL.out.below hB) (HP.out.below hB) (HX.out.below hB) (HF.out.below hB)) hB ?_;clear hB;intro wk hB;go_wp2_with fail;refine (HRd.out _ (HF.out.below hB)).mono ?_;rintro e V ⟨M,R,rfl,hI,hb⟩;have HI:=Lib.hid hI;have HBV:=Lib.hid (hB.trans (hb.mono hB.size));obtain ⟨c0,c1,c2⟩:=HK.out _ HBV.out;clear hb hI hB HBo HRd;go_wp2_with fail;clear c0 c1 c2
 go_loopw [8,27] (fun vo iv wr=>∃ k:Nat,k≤X.length∧vo=.slice none 0 0∧iv=.int .i64 k∧Below V.heap.size V wr) (fun _ iv _=>X.length-(intOf iv).toNat)
 case atStart=>exact ⟨0,Nat.zero_le _,rfl,rfl,Below.refl _ _⟩
 case round =>
  obtain ⟨k,hk,rfl,rfl,hV⟩:=hrel
  rename World=>V3
  have HV3:=Lib.hid hV;have HB3:=Lib.hid (HBV.out.trans (hV.mono HBV.out.size));clear hV
  by_cases hlt:k<X.length
  case neg =>
   obtain rfl:k=X.length:=by omega
   go_wp2_with fail;refine (HS0.out _).mono ?_;rintro e w4 ⟨rfl,rfl⟩;go_wp2_with fail;refine (HC0.out _).mono ?_;rintro e w5 ⟨rfl,rfl⟩;go_wp2_with fail;go_ret2;exact ⟨rfl,HB0.out.trans (HB3.out.mono HB0.out.size)⟩
  case pos =>
   obtain ⟨b,o,rfl,hbl,hcell⟩:=fx_at HX.out (by omega)
   have hk4:=hcell k hlt;have kk:=fun (q:Nat)=>HB3.out.cell (p:=⟨b,q,none⟩) hbl
   have hbw:b<V3.heap.size:=Nat.lt_of_lt_of_le hbl HB3.out.size;obtain ⟨hrn,hf1,hf2,p,hp⟩:=HFx.out k hlt;have hpf:=q83 PL X[k].pr;rw [hp] at hpf;obtain ⟨y,hy,hyp⟩:∃ y,PL.find? (fun x=>decide (x.1.s=X[k].pr))=some y∧y.1=p:=by
    cases hq:PL.find? (fun x=>decide (x.1.s=X[k].pr)) with
    | none=>rw [hq] at hpf;cases hpf
    | some y=>rw [hq] at hpf;injection hpf with hpf;exact ⟨y,rfl,hpf.symm⟩
   have hym:=List.mem_of_find?_eq_some hy;have hfv:featV PL X[k].pr=y.2:=by unfold featV;rw [hy]
   obtain ⟨H',hH'⟩:=HP.out.2 y hym;have hfit:=HRk.out.fit X[k] (List.getElem_mem hlt);obtain ⟨hpl,hraw⟩:=HIn.out X[k] (List.getElem_mem hlt);have hpll:=qbb (p:=fun f:Fm=>decide (f.un=X[k].un)) l
   obtain ⟨i,hi⟩:∃ i:Nat,plI l X[k].un=i:=⟨(plI l X[k].un).toNat,by omega⟩
   have hil:i<l.length:=by have:plI l X[k].un<l.length:=hpll;omega
   have hsz:=HSz.out i hil;have hpg:pgOf l X[k].un=l[i].sl.data.toList:=by unfold pgOf;rw [hi,Int.toNat_natCast,qa1 hil]
   rw [hpg] at hraw;rw [hfv] at hfit hraw;have hiR:i<R.length:=by rw [HI.out.2.2.1];exact hil
   obtain ⟨-,-,-,hcc⟩:=HI.out.2.2.2.1 i hiR hil;have hlk:=qdf HI.out X[k].un;rw [if_neg (by omega),hi,Int.toNat_natCast,List.getElem?_eq_getElem hiR] at hlk
   have HLV:=Lib.hid (show lookV true (rdL R) X[k].un (.slice none 0 0)=.tuple #[.slice (some ⟨R[i].2.1,0,none⟩) 512 R[i].2.2,.bool true] by
    unfold lookV;rw [if_pos rfl,hlk]
    rfl)
   have i0:(0:Int)≤(k:Int):=by omega
   have i1:(k:Int)<(X.length:Int):=by omega
   have w0:IntKind.i64.wrap ((k:Int)+1)=(k:Int)+1:=IntWalk.i64_in _ (by have:=HX64.out;omega)
   have HPf2:=Lib.hid (fun w h1=>HPf.out X[k] p w h1 hp)
   have hlen:l[i].sl.data.toList.length=512:=by
    have:l[i].sl.data.toList.length=l[i].sl.size:=by simp
    omega
   have HRw:=Lib.hid (fun (f:FC) (wl:List Slt) (w:World) (h1:Cells w R[i].2.1 (byV l[i].sl.data.toList)) (h3:1≤X[k].ad∧X[k].ad≤512) (h4:FitF X[k].ad (f.fea wl))=>q01e R[i].2.1 R[i].2.2 l[i].sl.data.toList X[k] f wl w h1 hlen h3 h4)
   clear hlen;clear hcell hp hpf hy hlk hpll hpl hpg hsz hfv;generalize R[i].2.1=RB at *;generalize R[i].2.2=RC at *
   try clear hiR
   generalize l[i].sl.data.toList=pg at *;clear hi
   try clear hil
   generalize X[k]=x at *;obtain ⟨ch,pt,pr,un,ad,ph,cb⟩:=x;obtain ⟨k0,k1,k2,k3,k4,k5,k6⟩:=hk4;have p0:=(kk _).trans k0;have p1:=(kk _).trans k1;have p2:=(kk _).trans k2;have p3:=(kk _).trans k3;have p4:=(kk _).trans k4;have p5:=(kk _).trans k5;have p6:=(kk _).trans k6;clear k0 k1 k2 k3 k4 k5 k6 kk;have had:1≤ad∧ad≤512:=by
    unfold qkt at hrn;simp only [Bool.and_eq_true,decide_eq_true_eq] at hrn;exact hrn.1.2
   dsimp only at p0 p1 p2 p3 p4 p5 p6 hfit hraw HLV;obtain ⟨⟨ys,yf,yw,yA,yn,yc⟩,yl⟩:=y;dsimp only at hyp hfit hraw hH';subst hyp;have HH':=Lib.hid hH';have HFit:=Lib.hid hfit;have HRaw:=Lib.hid hraw;replace HPf2:=Lib.hid (show ∀ w',shPr.In w' A1 n1 (PL.map Prod.fst)→Calls prog 61 #[.agg #[.slice A0 n0 d0,.slice A1 n1 d1,.slice (some ⟨b,o,none⟩) X.length d2],.agg #[.int .i64 ch,.int .i64 pt,.string pr,.int .i64 un,.int .i64 ad,.int .i64 ph,.string cb]] w' fun e w''=>e=.returned (.agg #[.string ys,.int .i64 yf,.int .i64 yw,.slice yA yn yc])∧Below w'.heap.size w' w'' from HPf2.out)
   replace HRw:=Lib.hid (fun (f:FC) (wl:List Slt) (w:World) (h1:Cells w RB (byV pg)) (h4:FitF ad (f.fea wl))=>show Calls prog 74 #[.slice (some ⟨RB,0,none⟩) 512 RC,.agg #[.int .i64 ch,.int .i64 pt,.string pr,.int .i64 un,.int .i64 ad,.int .i64 ph,.string cb],f.val] w fun e w'=>e=.returned (.int .i64 (shV pg ad (f.fea wl)))∧Below w.heap.size w w' from HRw.out f wl w h1 had h4)
   obtain ⟨W1,hW1⟩:∃ W1,W1=V3.alloc (.cells #[.int .i64 ch,.int .i64 pt,.string pr,.int .i64 un,.int .i64 ad,.int .i64 ph,.string cb] 55):=⟨_,rfl⟩;have hb1:Below V3.heap.size V3 W1:=by rw [hW1];exact (Below.refl _ _).alloc (Nat.le_refl _) _
   have HX1:=Lib.hid (show Cells W1 V3.heap.size [.int .i64 ch,.int .i64 pt,.string pr,.int .i64 un,.int .i64 ad,.int .i64 ph,.string cb] by rw [hW1];exact Cells.fresh V3 [.int .i64 ch,.int .i64 pt,.string pr,.int .i64 un,.int .i64 ad,.int .i64 ph,.string cb] _)
   have HV1:=Lib.hid (HV3.out.trans (hb1.mono HV3.out.size));have HB1:=Lib.hid (HB3.out.trans (hb1.mono HB3.out.size));have HM1:=Lib.hid (fun (w':World) (h:Below V3.heap.size V3 w')=>(HI.out.below (HV3.out.trans (h.mono HV3.out.size))).1)
   have HCc:=Lib.hid (fun (w':World) (h:Below V.heap.size V w')=>hcc.below h hcc.1)
   have HBb:=Lib.hid (fun (w':World) (h:Below V.heap.size V w')=>HBV.out.trans (h.mono HBV.out.size))
   have HW1:=Lib.hid hW1;have HCm:=Lib.hid (fun (w':World) (h:Below W1.heap.size W1 w')=>HX1.out.below h HX1.out.1)
   have n1:w.heap.size<V3.heap.size:=Nat.lt_of_lt_of_le (by rw [HW.out];simp) HB3.out.size
   have n2:¬ w.heap.size=V3.heap.size:=by omega
   have hfl:∀ w,(Instr.field 87 (.agg #[.string ys,.int .i64 yf,.int .i64 yw,.slice yA yn yc]) 3).run prog w=.ok (.slice yA yn yc) w:=fun w=>by rfl
   obtain ⟨c0,c1,c2⟩:=HK.out _ HB3.out;have hb1':=hb1;clear hW1 hH' hfit hraw hrn hf1 hf2 had hcc hym;go_wp2_with (at_lookup;refine q002 _ rfl _ _ _ _ rfl _ _ underlying119 iK (KeyTy.int underlying3) M (rdL R) un rfl rfl (HM1.out _ (by (repeat' first | exact Below.refl _ _ | assumption | apply Below.drew | apply q18 | refine Below.alloc ?_ ?_ _ | refine Below.setCell ?_ ?_ _ | refine Below.trans ?_ (Below.mono ‹_› ?_) | omega | (simp;omega) | simp))) (.slice none 0 0) (by simp) ?_;rw [HLV.out])
   rw [← HW1.out];refine (HPf2.out _ (HP.out.below HB1.out).1).mono ?_;rintro e w5 ⟨rfl,hb⟩;have HV5:=Lib.hid (HV1.out.trans (hb.mono HV1.out.size));have HC5:=Lib.hid (fun (w':World) (h:Below w5.heap.size w5 w')=>HCm.out w' (hb.trans (h.mono hb.size)))
   have hynl:yn=yl.length:=by have:=HH'.out.1.1.1;have:=HH'.out.1.2.1;omega
   have hyn2:=HH'.out.2.1;subst hynl;have hz1:=hb.size;have HZ:=Lib.hid (show V3.heap.size<w5.heap.size from Nat.lt_of_lt_of_le HX1.out.1 hz1)
   clear hb hz1 hb1 hb1' c0 c1 c2 p0 p1 p2 p3 p4 p5 p6;go_wp2_with fail
   go_loopw [8,45] (fun vo iv w6=>∃ j:Nat,j≤yl.length∧vo=.slice none 0 0∧iv=.int .i64 j∧Below w5.heap.size w5 w6) (fun _ iv _=>yl.length-(intOf iv).toNat)
   case atStart=>exact ⟨0,Nat.zero_le _,rfl,rfl,Below.refl _ _⟩
   case round =>
    obtain ⟨j,hj,rfl,rfl,h6⟩:=hrel;have H6:=Lib.hid h6;have HV6:=Lib.hid (HV5.out.trans (h6.mono HV5.out.size));have HB6:=Lib.hid (HBb.out _ HV6.out);have hX6:=HC5.out _ h6;have HX6:=Lib.hid hX6;have hz6:=h6.size;clear h6
    by_cases hlt2:j<yl.length
    case neg =>
     obtain rfl:j=yl.length:=by omega
     clear hX6;go_wp2_with fail
     go_roundw
     case rel=>exact ⟨k+1,hlt,rfl,by go_num,HV6.out⟩
     case measure=>simp [intOf];omega
    case pos =>
     have hjH:j<H'.length:=by have:=HH'.out.1.2.1;omega
     obtain ⟨b2,o2,rfl,hbl2,hc2⟩:=ft_at HH'.out.1.1 (by omega)
     have hkf:=hc2 j hjH;have kk:=fun (q:Nat)=>HB6.out.cell (p:=⟨b2,q,none⟩) hbl2
     have hbw2:b2<wr.heap.size:=Nat.lt_of_lt_of_le hbl2 HB6.out.size;have hfx:=(HH'.out.1.2.2 j hjH hlt2).1;have hfit:=HFit.out yl[j] (List.getElem_mem hlt2);have hraw:=HRaw.out yl[j] (List.getElem_mem hlt2);have j0:(0:Int)≤(j:Int):=by omega
     have j1:(j:Int)<(yl.length:Int):=by omega
     have w1:IntKind.i64.wrap ((j:Int)+1)=(j:Int)+1:=IntWalk.i64_in _ (by omega)
     rw [hfx] at hfit hraw;generalize yl[j].wh=wh at *;clear hfx hc2;generalize H'[j]=f at *;obtain ⟨at_,bits,co,fi,cu,ho,lo,hi',sn,fA,fn,fc⟩:=f
     obtain ⟨k0,k1,k2,k3,k4,k5,k6,k7,k8,k9⟩:=hkf;have p0:=(kk _).trans k0;have p1:=(kk _).trans k1;have p2:=(kk _).trans k2;have p3:=(kk _).trans k3;have p4:=(kk _).trans k4;have p5:=(kk _).trans k5;have p6:=(kk _).trans k6;have p7:=(kk _).trans k7;have p8:=(kk _).trans k8;have p9:=(kk _).trans k9;clear k0 k1 k2 k3 k4 k5 k6 k7 k8 k9 kk;dsimp only at p0 p1 p2 p3 p4 p5 p6 p7 p8 p9;obtain ⟨W7,hW7⟩:∃ W7,W7=wr.alloc (.cells #[.int .i64 at_,.int .i64 bits,.int .i64 co,.int .i64 fi,.int .i64 cu,.int .i64 ho,.int .i64 lo,.int .i64 hi',.bool sn,.slice fA fn fc] 90):=⟨_,rfl⟩
     have hb7:Below wr.heap.size wr W7:=by rw [hW7];exact (Below.refl _ _).alloc (Nat.le_refl _) _
     have HY7:=Lib.hid (show Cells W7 wr.heap.size [.int .i64 at_,.int .i64 bits,.int .i64 co,.int .i64 fi,.int .i64 cu,.int .i64 ho,.int .i64 lo,.int .i64 hi',.bool sn,.slice fA fn fc] by rw [hW7];exact Cells.fresh wr [.int .i64 at_,.int .i64 bits,.int .i64 co,.int .i64 fi,.int .i64 cu,.int .i64 ho,.int .i64 lo,.int .i64 hi',.bool sn,.slice fA fn fc] _)
     have H7:=Lib.hid (H6.out.trans (hb7.mono H6.out.size));have HV7:=Lib.hid (HV5.out.trans (H7.out.mono HV5.out.size));have HW7:=Lib.hid hW7;have m1:V3.heap.size<wr.heap.size:=hX6.1;have m2:¬ V3.heap.size=wr.heap.size:=by omega
     have x0:=hX6.at_ (j:=0) rfl
     have x1:=hX6.at_ (j:=1) rfl
     have x2:=hX6.at_ (j:=2) rfl
     have x3:=hX6.at_ (j:=3) rfl
     have x4:=hX6.at_ (j:=4) rfl
     have x5:=hX6.at_ (j:=5) rfl
     have x6:=hX6.at_ (j:=6) rfl
     have hrw:=HRw.out ⟨at_,bits,co,fi,cu,ho,lo,hi',sn,fA,fn,fc⟩ wh W7 (HCc.out _ HV7.out) hfit
     replace hrw:=(show Calls prog 74 #[.slice (some ⟨RB,0,none⟩) 512 RC,.agg #[.int .i64 ch,.int .i64 pt,.string pr,.int .i64 un,.int .i64 ad,.int .i64 ph,.string cb],.agg #[.int .i64 at_,.int .i64 bits,.int .i64 co,.int .i64 fi,.int .i64 cu,.int .i64 ho,.int .i64 lo,.int .i64 hi',.bool sn,.slice fA fn fc]] W7 fun e w'=>e=.returned (.int .i64 (shV pg ad (FC.fea ⟨at_,bits,co,fi,cu,ho,lo,hi',sn,fA,fn,fc⟩ wh)))∧Below W7.heap.size W7 w' from hrw)
     have hraw1:lo≤shV pg ad (FC.fea ⟨at_,bits,co,fi,cu,ho,lo,hi',sn,fA,fn,fc⟩ wh):=hraw.1
     have hraw2:shV pg ad (FC.fea ⟨at_,bits,co,fi,cu,ho,lo,hi',sn,fA,fn,fc⟩ wh)≤hi':=hraw.2
     generalize shV pg ad (FC.fea ⟨at_,bits,co,fi,cu,ho,lo,hi',sn,fA,fn,fc⟩ wh)=vv at *
     have g1:¬ vv<lo:=by omega
     have g2:¬ hi' < vv:=by omega
     have HRr:=Lib.hid hrw;clear hrw hraw hraw1 hraw2 hfit hW7 hb7 hX6 hbl2 hjH hz6;go_wp2_with fail;rw [← HW7.out];refine HRr.out.mono ?_;rintro e w8 ⟨rfl,hb⟩;have HY8:=Lib.hid (HY7.out.below hb HY7.out.1);have H8:=Lib.hid (H7.out.trans (hb.mono H7.out.size));have y6:=HY8.out.at_ (j:=6) rfl
     have y7:=HY8.out.at_ (j:=7) rfl
     clear hb x0 x1 x2 x3 x4 x5 x6 p0 p1 p2 p3 p4 p5 p6 p7 p8 p9;go_wp2_with fail
     go_roundw
     case rel=>exact ⟨j+1,hlt2,rfl,by go_num,H8.out⟩
     case measure=>simp [intOf];omega
end

end Go.Proofs.YtbfikenbgfnfiaaGreatDoor
