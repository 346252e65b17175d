/- Lemmas. -/
import Derived.Test.YtmcbkdlfhffphaaGreatDoorMUniJ
import Derived.Test.YtmcbkdlfhffphaaGreatDoorMShelfB
namespace Go.Proofs.YtmcbkdlfhffphaaGreatDoor
set_option maxHeartbeats 32000000
set_option maxRecDepth 100000
open _root_.Go.Proofs.Tryz

section
open Go.RowKit
def shV (pg:List UInt8) (ad:Int) (f:Fea):Int :=
 if f.bits=16 then 256*((pg.getD (ad-1+f.co).toNat 0).toNat:Int)+((pg.getD (ad-1+f.fi).toNat 0).toNat:Int) else ((pg.getD (ad-1+f.co).toNat 0).toNat:Int)
theorem q016 {pg pg':List UInt8} {ad:Int} {f:Fea} (h1:pg'[(ad-1+f.co).toNat]? = pg[(ad-1+f.co).toNat]?) (h2:f.bits=16→pg'[(ad-1+f.fi).toNat]? = pg[(ad-1+f.fi).toNat]?):shV pg' ad f=shV pg ad f:=by
 unfold shV;simp only [List.getD_eq_getElem?_getD];rw [h1]
 by_cases h:f.bits=16
 ·rw [if_pos h,if_pos h,h2 h]
 ·rw [if_neg h,if_neg h]
def Apart (f g:Fea):Prop:=f.co≠g.co∧(f.bits=16→f.fi≠g.co)∧(g.bits=16→f.co≠g.fi∧(f.bits=16→f.fi≠g.fi))
def FitF (ad:Int) (f:Fea):Prop:=(f.bits=8∨f.bits=16)∧0≤ad-1+f.co∧ad-1+f.co<512∧(f.bits=16→0≤ad-1+f.fi∧ad-1+f.fi<512∧f.fi≠f.co)
theorem q015 {pg:List UInt8} {ad:Int} {f g:Fea} {raw:Int} (h:Apart f g) (hf:FitF ad f) (hg:FitF ad g):shV (setF pg ad g raw) ad f=shV pg ad f:=by
 obtain ⟨a1,a2,a3⟩:=h;obtain ⟨-,f1,-,f3⟩:=hf;obtain ⟨g0,g1,-,g3⟩:=hg;refine q016 ?_ fun h16=>?_
 ·unfold setF
  by_cases h8:g.bits=8
  ·rw [if_pos h8,List.getElem?_set,if_neg (by omega)]
  ·have:=a3 (by omega)
   have:=g3 (by omega)
   rw [if_neg h8,List.getElem?_set,if_neg (by omega),List.getElem?_set,if_neg (by omega)]
 ·have:=f3 h16
  have:=a2 h16
  unfold setF
  by_cases h8:g.bits=8
  ·rw [if_pos h8,List.getElem?_set,if_neg (by omega)]
  ·have:=(a3 (by omega)).2 h16
   have:=g3 (by omega)
   rw [if_neg h8,List.getElem?_set,if_neg (by omega),List.getElem?_set,if_neg (by omega)]
theorem q01a {pg:List UInt8} {ad:Int} {f:Fea} {raw:Int} (hl:pg.length=512) (hf:FitF ad f) (h0:0≤raw) (h1:raw≤topV f.bits):shV (setF pg ad f raw) ad f=raw:=by
 obtain ⟨f0,f1,f2,f3⟩:=hf;unfold shV setF topV at *;simp only [List.getD_eq_getElem?_getD]
 by_cases h8:f.bits=8
 ·rw [if_pos h8] at h1
  rw [if_neg (by omega),if_pos h8,List.getElem?_set,if_pos rfl,if_pos (by omega)]
  exact qtj h0 h1
 ·have h16:f.bits=16:=by omega
  obtain ⟨k1,k2,k3⟩:=f3 h16;rw [if_neg h8] at h1;rw [if_pos h16,if_neg h8,List.getElem?_set,if_neg (by omega),List.getElem?_set,if_pos rfl,if_pos (by omega),List.getElem?_set,if_pos rfl,if_pos (by rw [List.length_set];omega)]
  show 256*((u8v (raw / 256)).toNat:Int)+((u8v (raw % 256)).toNat:Int)=raw
  rw [qtj (by omega) (by omega),qtj (by omega) (by omega)]
  omega
theorem q019 {L:List (List PT)} {l:List Am} {x:Fx} {f:Fea} (hf:FitF x.ad f) (F:List Fea) (hF:∀ g ∈ F,FitF x.ad g∧Apart f g):∀ pg:List UInt8,shV (setX L l x pg F) x.ad f=shV pg x.ad f:=by
 unfold setX
 induction F with
 | nil=>intro pg;rfl
 | cons g F ih =>
  intro pg;obtain ⟨hg,ha⟩:=hF g (List.mem_cons_self ..);rw [List.foldl_cons,ih (fun k hk=>hF k (List.mem_cons_of_mem _ hk)),q015 ha hf hg]
theorem q018 {L:List (List PT)} {l:List Am} {x:Fx} (F:List Fea) (hp:F.Pairwise Apart) (hF:∀ g ∈ F,FitF x.ad g∧0≤rawF L l x.ch g∧rawF L l x.ch g≤topV g.bits) {f:Fea} (hf:f ∈ F):∀ pg:List UInt8,pg.length=512→shV (setX L l x pg F) x.ad f=rawF L l x.ch f:=by
 induction F with
 | nil=>exact absurd hf (List.not_mem_nil)
 | cons g F ih =>
  intro pg hl;have hp':=List.pairwise_cons.1 hp;have hs:setX L l x pg (g :: F)=setX L l x (setF pg x.ad g (rawF L l x.ch g)) F:=rfl;rw [hs]
  rcases List.mem_cons.1 hf with rfl | hf
  ·obtain ⟨h1,h2,h3⟩:=hF f (List.mem_cons_self ..)
   rw [q019 h1 F (fun k hk=>⟨(hF k (List.mem_cons_of_mem _ hk)).1,hp'.1 k hk⟩),q01a hl h1 h2 h3]
  ·exact ih hp'.2 (fun k hk=>hF k (List.mem_cons_of_mem _ hk)) hf _ (by rw [qpd];exact hl)
structure RigOK (L:List (List PT)) (PL:List (PC × List Fea)) (X:List Fx):Prop where
 fit:∀ x ∈ X,∀ f ∈ featV PL x.pr,FitF x.ad f
 fitX:∀ x ∈ X,FitX PL x
 alone:∀ x ∈ X,∀ f ∈ featV PL x.pr,aloneE f L=0
 apart:∀ x ∈ X,(featV PL x.pr).Pairwise Apart
 over:X.Pairwise fun x y=>overB (PL.map Prod.fst) y x=false
 un:∀ x ∈ X,1≤x.un∧x.un≤8
theorem q00x {l:List Fea} {foot:Int} {n:Nat} (h:firstE (feaE l foot n) l.length=0):l.Pairwise Apart∧∀ f ∈ l,f.bits=16→f.fi≠f.co:=by
 have key:∀ i (hi:i<l.length),usedB (l.take i) l[i].co=false∧(l[i].bits=16→usedB (l.take i) l[i].fi=false∧l[i].fi≠l[i].co):=by
  intro i hi;have hE:=q89 h i hi;unfold feaE at hE;rw [qa1 hi] at hE
  by_cases e1:l[i].at_<0∨15≤l[i].at_
  ·rw [if_pos e1] at hE;cases hE
  rw [if_neg e1] at hE
  by_cases e2:(l.take i).any (fun x=>decide (x.at_=l[i].at_))=true
  ·rw [if_pos e2] at hE;cases hE
  rw [if_neg e2] at hE
  by_cases e3:bitsE l[i]≠0
  ·rw [if_pos e3] at hE;cases hE
  rw [if_neg e3] at hE
  by_cases e4:l[i].co<0∨foot≤l[i].co∨l[i].bits=16∧(l[i].fi<0∨foot≤l[i].fi)
  ·rw [if_pos e4] at hE;cases hE
  rw [if_neg e4] at hE
  by_cases e5:l[i].bits=8∧l[i].fi≠0
  ·rw [if_pos e5] at hE;cases hE
  rw [if_neg e5] at hE
  by_cases e6:usedB (l.take i) l[i].co=true∨l[i].bits=16∧(usedB (l.take i) l[i].fi=true∨l[i].fi=l[i].co)
  ·rw [if_pos e6] at hE;cases hE
  refine ⟨?_,fun h16=>⟨?_,fun hc=>e6 (.inr ⟨h16,.inr hc⟩)⟩⟩
  ·cases hu:usedB (l.take i) l[i].co with
   | true=>exact absurd (.inl hu) e6
   | false=>rfl
  ·cases hu:usedB (l.take i) l[i].fi with
   | true=>exact absurd (.inr ⟨h16,.inl hu⟩) e6
   | false=>rfl
 have no:∀ {m:List Fea} {o:Int} {f:Fea},usedB m o=false→f ∈ m→f.co≠o∧(f.bits=16→f.fi≠o):=by
  intro m o f hu hf;unfold usedB at hu;rw [List.any_eq_false] at hu
  have:=hu f hf
  simp only [Bool.or_eq_true,Bool.and_eq_true,decide_eq_true_eq,not_or,not_and] at this;exact this
 refine ⟨?_,fun f hf h16=>?_⟩
 ·rw [List.pairwise_iff_getElem]
  intro i j hi hj hij;obtain ⟨k1,k2⟩:=key j hj;have hm:l[i] ∈ l.take j:=by rw [← List.getElem_take (j:=j) (h:=by rw [List.length_take];omega)];exact List.getElem_mem _
  have h1:=no k1 hm;exact ⟨h1.1,h1.2,fun h16=>no (k2 h16).1 hm⟩
 ·obtain ⟨i,hi,rfl⟩:=List.getElem_of_mem hf
  exact ((key i hi).2 h16).2
theorem rig_ok {L:List (List PT)} {PL:List (PC × List Fea)} {X:List Fx} (h:uniE L PL X=0):RigOK L PL X:=by
 obtain ⟨-,-,hFx,hFe⟩:=qu8 h;have hfit:=fit_of h;have hpr:∀ i (hi:i<PL.length),profE PL[i].1.s PL[i].1.ft PL[i].1.wa PL[i].2 L=0:=by
  intro i hi;have h0:=h;unfold uniE at h0
  by_cases h1:errA L≠0
  ·rw [if_pos h1] at h0;exact absurd h0 h1
  rw [if_neg h1] at h0
  by_cases h2:32<PL.length
  ·rw [if_pos h2] at h0;cases h0
  rw [if_neg h2] at h0
  by_cases h3:firstE (prE L PL) PL.length≠0
  ·rw [if_pos h3] at h0;exact absurd h0 h3
  have hp:=q89 (Classical.not_not.1 h3) i hi;unfold prE at hp;rw [qa1 hi] at hp
  by_cases h5:profE PL[i].1.s PL[i].1.ft PL[i].1.wa PL[i].2 L≠0
  ·rw [if_pos h5] at hp;exact absurd hp h5
  ·exact Classical.not_not.1 h5
 have hfe:∀ x ∈ PL,firstE (feaE x.2 x.1.ft L.length) x.2.length=0:=by
  intro x hx;obtain ⟨i,hi,rfl⟩:=List.getElem_of_mem hx;have hp:=hpr i hi;unfold profE at hp
  by_cases h1:errA L≠0
  ·rw [if_pos h1] at hp;exact absurd hp h1
  rw [if_neg h1] at hp
  by_cases h2:nmB PL[i].1.s=false
  ·rw [if_pos h2] at hp;cases hp
  rw [if_neg h2] at hp
  by_cases h3:PL[i].1.ft<1∨512<PL[i].1.ft∨PL[i].1.wa<0∨1048576<PL[i].1.wa
  ·rw [if_pos h3] at hp;cases hp
  rw [if_neg h3] at hp
  by_cases h4:16<PL[i].2.length
  ·rw [if_pos h4] at hp;cases hp
  rw [if_neg h4] at hp;exact hp
 have hft:∀ s,(featV PL s).Pairwise Apart∧∀ f ∈ featV PL s,(f.bits=16→f.fi≠f.co)∧aloneE f L=0:=by
  intro s;unfold featV
  cases hq:PL.find? (fun x=>decide (x.1.s=s)) with
  | none=>exact ⟨List.Pairwise.nil,fun f hf=>absurd hf (List.not_mem_nil)⟩
  | some y =>
   have hy:=List.mem_of_find?_eq_some hq;obtain ⟨p1,p2⟩:=q00x (hfe y hy);exact ⟨p1,fun f hf=>⟨p2 f hf,(hFe y hy f hf).1⟩⟩
 have hrn:∀ x ∈ X,1≤x.un∧x.un≤8∧1≤x.ad∧x.ad+footV (PL.map Prod.fst) x.pr≤513:=by
  intro x hx;obtain ⟨i,hi,rfl⟩:=List.getElem_of_mem hx;obtain ⟨hr,-,h3,-⟩:=hFx i hi;unfold qkt at hr;simp only [Bool.and_eq_true,decide_eq_true_eq] at hr;exact ⟨hr.1.1.2.1,hr.1.1.2.2,hr.1.2.1,h3⟩
 refine ⟨fun x hx f hf=>?_,hfit,fun x hx f hf=>((hft x.pr).2 f hf).2,fun x _=>(hft x.pr).1,?_,fun x hx=>⟨(hrn x hx).1,(hrn x hx).2.1⟩⟩
 ·obtain ⟨-,q⟩:=hfit x hx
  obtain ⟨q1,q2,q3⟩:=q f hf;have q4:=hrn x hx;exact ⟨q2,by omega,by omega,fun h16=>⟨by have:=q3 h16;omega,by have:=q3 h16;omega,((hft x.pr).2 f hf).1 h16⟩⟩
 ·rw [List.pairwise_iff_getElem]
  intro i j hi hj hij;have h0:=h;unfold uniE at h0
  by_cases h1:errA L≠0
  ·rw [if_pos h1] at h0;exact absurd h0 h1
  rw [if_neg h1] at h0
  by_cases h2:32<PL.length
  ·rw [if_pos h2] at h0;cases h0
  rw [if_neg h2] at h0
  by_cases h3:firstE (prE L PL) PL.length≠0
  ·rw [if_pos h3] at h0;exact absurd h0 h3
  rw [if_neg h3] at h0;unfold patE at h0
  by_cases h4:32<(PL.map Prod.fst).length∨64<X.length
  ·rw [if_pos h4] at h0;cases h0
  rw [if_neg h4] at h0;have h5:=(fx_ok (q89 h0 j hj)).2.2;rw [qa1 hj,List.any_eq_false] at h5;have hm:X[i] ∈ X.take j:=by rw [← List.getElem_take (j:=j) (h:=by rw [List.length_take];omega)];exact List.getElem_mem _
  simpa using h5 _ hm
theorem raw_in {L:List (List PT)} {l:List Am} {ch:Int} {f:Fea} (h:aloneE f L=0):0≤rawF L l ch f∧rawF L l ch f≤topV f.bits:=by
 obtain ⟨hA,hb,hc1,hc2,-,h1,h2,h3,-⟩:=q0g h;unfold rawF rawV
 by_cases hr:rawE f L (toldT l ch f.at_ f.ho)≠0
 ·rw [if_pos hr];omega
 ·rw [if_neg hr]
  have:=qdm (qi7 hA hc1 hc2) h2 (valR (toldT l ch f.at_ f.ho).data.toList)
  omega
theorem q014 {L:List (List PT)} {l:List Am} {ch:Int} {f:Fea} (h:aloneE f L=0) (hc:chkR (toldT l ch f.at_ f.ho).data.toList=0):f.lo≤rawF L l ch f∧rawF L l ch f≤f.hi:=by
 obtain ⟨hA,hb,hc1,hc2,-,h1,h2,h3,-⟩:=q0g h;unfold rawF rawV;rw [if_neg (fun hn=>hn (q7i h hc))]
 exact qdm (qi7 hA hc1 hc2) h2 _
theorem q017 {L:List (List PT)} {l:List Am} {PL:List (PC × List Fea)} {x:Fx} {f:Fea} (hf:FitF x.ad f) (hi:(0≤f.co∧f.co<footV (PL.map Prod.fst) x.pr)∧(f.bits=16→0≤f.fi∧f.fi<footV (PL.map Prod.fst) x.pr)) (X:List Fx) (hX:∀ y ∈ X,FitX PL y∧overB (PL.map Prod.fst) y x=false) :
  ∀ pg:List UInt8,shV (X.foldl (fun pg y=>if y.un=x.un then setX L l y pg (featV PL y.pr) else pg) pg) x.ad f=shV pg x.ad f:=by
 induction X with
 | nil=>intro pg;rfl
 | cons y X ih =>
  intro pg;rw [List.foldl_cons,ih (fun z hz=>hX z (List.mem_cons_of_mem _ hz))]
  by_cases hu:y.un=x.un
  ·rw [if_pos hu]
   obtain ⟨⟨h1,hy⟩,ho⟩:=hX y (List.mem_cons_self ..);unfold overB at ho;rw [decide_eq_true hu.symm,Bool.true_and,Bool.and_eq_false_iff,decide_eq_false_iff_not,decide_eq_false_iff_not] at ho;obtain ⟨-,f1,f2,f3⟩:=hf;refine q016 ?_ fun h16=>?_
   ·exact qpg h1 (by omega) _ hy _
   ·have:=f3 h16
    have:=hi.2 h16
    exact qpg h1 (by omega) _ hy _
  ·rw [if_neg hu]
theorem shown {L:List (List PT)} {l:List Am} {PL:List (PC × List Fea)} {X:List Fx} (h:RigOK L PL X) {x:Fx} (hx:x ∈ X) {f:Fea} (hf:f ∈ featV PL x.pr):shV (pageV L l PL X x.un) x.ad f=rawF L l x.ch f:=by
 have key:∀ (X':List Fx),(∀ y ∈ X',y ∈ X)→X'.Pairwise (fun x y=>overB (PL.map Prod.fst) y x=false)→x ∈ X'→∀ pg:List UInt8,pg.length=512→shV (X'.foldl (fun pg y=>if y.un=x.un then setX L l y pg (featV PL y.pr) else pg) pg) x.ad f=rawF L l x.ch f:=by
  intro X'
  induction X' with
  | nil=>intro _ _ hm;exact absurd hm (List.not_mem_nil)
  | cons y X' ih =>
   intro hs hp hm pg hl;rw [List.foldl_cons];have hp':=List.pairwise_cons.1 hp
   rcases List.mem_cons.1 hm with rfl | hm
   ·rw [if_pos rfl]
    obtain ⟨-,q⟩:=h.fitX x hx;rw [q017 (h.fit x hx f hf) ⟨(q f hf).1,(q f hf).2.2⟩ X' (fun z hz=>⟨h.fitX z (hs z (List.mem_cons_of_mem _ hz)),hp'.1 z hz⟩)]
    exact q018 _ (h.apart x hx) (fun g hg=>⟨h.fit x hx g hg,raw_in (h.alone x hx g hg)⟩) hf _ hl
   ·refine ih (fun z hz=>hs z (List.mem_cons_of_mem _ hz)) hp'.2 hm _ ?_
    by_cases hu:y.un=x.un
    ·rw [if_pos hu,qph];exact hl
    ·rw [if_neg hu];exact hl
 exact key X (fun _ hy=>hy) h.over hx _ List.length_replicate
end

section
open Go.RowKit
theorem q013 {a b:Nat} (ha:a<256) (hb:b<256):bits .or .i64 (256*(a:Int)) (b:Int)=256*(a:Int)+(b:Int):=by
 have h:=Nat.shiftLeft_add_eq_or_of_lt (i:=8) (b:=b) (by omega) a
 rw [Nat.shiftLeft_eq] at h;unfold bits;show IntKind.i64.wrap (((BitVec.ofInt 64 (256*(a:Int)) ||| BitVec.ofInt 64 (b:Int)).toNat:Nat):Int)=_
 rw [show (256*(a:Int))=((256*a:Nat):Int) by omega,BitVec.ofInt_natCast,BitVec.ofInt_natCast,BitVec.toNat_or,BitVec.toNat_ofNat,BitVec.toNat_ofNat,Nat.mod_eq_of_lt (by omega),Nat.mod_eq_of_lt (by omega),show 256*a=a*2 ^ 8 by omega,← h]
 exact IntWalk.i64_in _ (by omega)
theorem byV_at {pg:List UInt8} {a:Nat} (h:a<pg.length):(byV pg)[a]? = some (.int .u8 ((pg.getD a 0).toNat:Int)):=by
 unfold byV;rw [List.getElem?_map,List.getElem?_eq_getElem h,qa1 h]
 rfl
theorem q01e (B cap:Nat) (pg:List UInt8) (x:Fx) (f:FC) (wl:List Slt) (w:World) (hR:Cells w B (byV pg)) (hl:pg.length=512) (had:1≤x.ad∧x.ad≤512) (hf:FitF x.ad (f.fea wl)) :
  Calls prog 49 #[.slice (some ⟨B,0,none⟩) 512 cap,x.val,f.val] w fun e w'=>e=.returned (.int .i64 (shV pg x.ad (f.fea wl)))∧Below w.heap.size w w':=by
 obtain ⟨ch,pt,pr,un,ad,ph,cb⟩:=x;obtain ⟨at_,bits,co,fi,cu,ho,lo,hi,sn,A,n,c⟩:=f
 obtain ⟨f0,f1,f2,f3⟩:=hf;dsimp only [FC.fea] at had f0 f1 f2 f3;obtain ⟨a,ha⟩:∃ a:Nat,(a:Int)=ad-1+co:=⟨(ad-1+co).toNat,by omega⟩
 have hv:shV pg ad (FC.fea ⟨at_,bits,co,fi,cu,ho,lo,hi,sn,A,n,c⟩ wl)=if bits=16 then 256*((pg.getD a 0).toNat:Int)+((pg.getD (ad-1+fi).toNat 0).toNat:Int) else ((pg.getD a 0).toNat:Int):=by
  rw [show a=(ad-1+co).toNat by omega]
  rfl
 show Calls prog 49 #[.slice (some ⟨B,0,none⟩) 512 cap,.agg #[.int .i64 ch,.int .i64 pt,.string pr,.int .i64 un,.int .i64 ad,.int .i64 ph,.string cb],.agg #[.int .i64 at_,.int .i64 bits,.int .i64 co,.int .i64 fi,.int .i64 cu,.int .i64 ho,.int .i64 lo,.int .i64 hi,.bool sn,.slice A n c]] w fun e w'=>e=.returned (.int .i64 (shV pg ad (FC.fea ⟨at_,bits,co,fi,cu,ho,lo,hi,sn,A,n,c⟩ wl)))∧Below w.heap.size w w'
 rw [hv];have e1:IntKind.i64.wrap (ad-1)=ad-1:=IntWalk.i64_in _ (by omega)
 have e2:IntKind.i64.wrap (ad-1+co)=(a:Int):=by rw [ha];exact IntWalk.i64_in _ (by omega)
 have hx:(pg.getD a 0).toNat<256:=UInt8.toNat_lt _;have pa:=byV_at (pg:=pg) (a:=a) (by omega)
 generalize (pg.getD a 0).toNat=X at *;have e3:IntKind.i64.wrap (X:Int)=(X:Int):=IntWalk.i64_in _ (by omega)
 have i1:(a:Int)<512:=by omega
 have p1:=hR.at_ (j:=a) pa
 have m1:B<w.heap.size:=hR.1;have m2:¬ B=w.heap.size:=by omega
 have m3:B<w.heap.size+1:=by omega
 have m4:¬ B=w.heap.size+1:=by omega
 clear pa hv
 by_cases h16:bits=16
 ·obtain ⟨g1,g2,-⟩:=f3 h16
  obtain ⟨b,hb⟩:∃ b:Nat,(b:Int)=ad-1+fi:=⟨(ad-1+fi).toNat,by omega⟩
  rw [if_pos h16,show (ad-1+fi).toNat=b by omega]
  have e4:IntKind.i64.wrap (ad-1+fi)=(b:Int):=by rw [hb];exact IntWalk.i64_in _ (by omega)
  have hy:(pg.getD b 0).toNat<256:=UInt8.toNat_lt _;have p2:=hR.at_ (j:=b) (byV_at (pg:=pg) (a:=b) (by omega))
  generalize (pg.getD b 0).toNat=Y at *;have e5:IntKind.i64.wrap (Y:Int)=(Y:Int):=IntWalk.i64_in _ (by omega)
  have e6:wrap64 ((X:Int)*256)=256*(X:Int):=by unfold wrap64;omega
  have e7:=q013 hx hy;have i2:(b:Int)<512:=by omega
  have z:(bits == 16)=true:=by simpa using h16
  clear h16 f0 f1 f2 f3 g1 g2 had ha hb hx hy hR hl
  go_enter func49,ntmps49
  go_wp2_with fail;go_ret;exact ⟨qlz (by first | rfl | exact e7 | (rw [e6];exact e7)),by (repeat' first | exact br_ | assumption | apply Below.drew | apply q18 | refine Below.alloc ?_ ?_ _ | refine Below.setCell ?_ ?_ _ | refine Below.trans ?_ (Below.mono ‹_› ?_) | omega | (simp;omega) | simp)⟩
 ·rw [if_neg h16]
  have z:(bits == 16)=false:=by simpa using h16
  clear h16 f0 f1 f2 f3 had ha hx hR hl
  go_enter func49,ntmps49
  go_wp2_with fail;go_ret;exact ⟨rfl,by (repeat' first | exact br_ | assumption | apply Below.drew | apply q18 | refine Below.alloc ?_ ?_ _ | refine Below.setCell ?_ ?_ _ | refine Below.trans ?_ (Below.mono ‹_› ?_) | omega | (simp;omega) | simp)⟩
end

section
open Go.RowKit
def pgOf (l:List Fm) (u:Int):List UInt8:=(l.getD (plI l u).toNat fm0).sl.data.toList
theorem q012 {α:Type} {p:α→Bool}:∀ {l:List α} {x:α},x ∈ l→p x=true→¬ idxOf p l<0
 | [],_,h,_=>absurd h (List.not_mem_nil)
 | a :: l,x,h,hx=>by
  rw [idxOf]
  cases ha:p a with
  | true=>rw [if_pos rfl];decide
  | false =>
   rcases List.mem_cons.1 h with rfl | h
   ·rw [hx] at ha;cases ha
   ·have:=q012 h hx
    rw [if_neg Bool.false_ne_true,if_neg this];omega
theorem q011 {used:Int→Bool} {c:Int→List UInt8} {u:Int} (h1:1≤u) (hu:used u=true):∀ n:Nat,u≤(n:Int)→∃ x ∈ frmG used c n,x.un=u
 | 0,h=>absurd h (by omega)
 | n+1,h=>by
  rw [frmG]
  by_cases hn:u≤(n:Int)
  ·obtain ⟨x,hx,e⟩:=q011 h1 hu n hn
   exact ⟨x,List.mem_append_left _ hx,e⟩
  ·have e:u=(n:Int)+1:=by omega
   rw [e] at hu;rw [hu,if_pos rfl];exact ⟨_,List.mem_append_right _ (List.mem_singleton.2 rfl),e.symm⟩
theorem pl_at {l:List Fm} {u:Int} (h:∃ x ∈ l,x.un=u):∃ k:Nat,∃ hk:k<l.length,plI l u=k∧l[k].un=u:=by
 obtain ⟨x,hx,e⟩:=h;have h0:=q012 (p:=fun f:Fm=>decide (f.un=u)) hx (by simpa using e)
 have hlt:=qbb (p:=fun f:Fm=>decide (f.un=u)) l
 obtain ⟨k,hk⟩:∃ k:Nat,idxOf (fun f:Fm=>decide (f.un=u)) l=k:=⟨(idxOf (fun f:Fm=>decide (f.un=u)) l).toNat,by omega⟩
 have hkl:k<l.length:=by omega
 exact ⟨k,hkl,hk,by simpa using qba hkl hk⟩
theorem q00z {used:Int→Bool} {c:Int→List UInt8} {n:Nat} {u:Int} (h:∃ x ∈ frmG used c n,x.un=u):¬ plI (frmG used c n) u<0∧pgOf (frmG used c n) u=c u:=by
 obtain ⟨k,hk,hp,hun⟩:=pl_at h;refine ⟨by omega,?_⟩
 unfold pgOf;rw [hp,Int.toNat_natCast,qa1 hk,q9m used c n _ (List.getElem_mem hk),hun]
theorem q00y {L:List (List PT)} {PL:List (PC × List Fea)} {X:List Fx} {l:List Am} (hu:uniE L PL X=0) (hg:givE l=0) (hs:∀ a ∈ l,a.lev.size≤120) {x:Fx} (hx:x ∈ X) :
  ¬ plI (frmG (usedU X) (pageV L l PL X) 8) x.un<0∧∀ f ∈ featV PL x.pr,f.lo≤shV (pgOf (frmG (usedU X) (pageV L l PL X) 8) x.un) x.ad f∧shV (pgOf (frmG (usedU X) (pageV L l PL X) 8) x.un) x.ad f≤f.hi:=by
 have hr:=rig_ok hu;have hun:=hr.un x hx;have hus:usedU X x.un=true:=by unfold usedU;exact List.any_eq_true.2 ⟨x,hx,by simp⟩
 obtain ⟨h1,h2⟩:=q00z (q011 (c:=pageV L l PL X) hun.1 hus 8 hun.2);refine ⟨h1,fun f hf=>?_⟩
 rw [h2,shown hr hx hf];have ha:=hr.alone x hx f hf;exact q014 ha (qsl hg hs (q0f ha)).1
end

section
open Go.RowKit
def bothE (L:List (List PT)) (PL:List (PC × List Fea)) (X:List Fx) (l:List Fm):Int:=if uniE L PL X≠0 then uniE L PL X else rightE l
theorem q01c (A0:Option Addr) (n0 d0:Nat) (H:List Hd) (L:List (List PT)) (A1:Option Addr) (n1 d1:Nat) (PL:List (PC × List Fea)) (A2:Option Addr) (n2 d2:Nat) (X:List Fx) (A:Option Addr) (n c:Nat) (l:List Fm) (w:World)
  (hl:InN w A0 n0 H L) (hm:∀ h ∈ H,h.n≤9223372036854775807) (hp:InPs w A1 n1 PL) (hn1:n1≤9223372036854775806) (hx:shX.In w A2 n2 X) (hn2:n2≤d2) (hd2:d2≤9223372036854775807) (hcb:∀ x ∈ X,x.cb.size≤9223372036854775807)
  (hf:shFm.In w A n l) (hn:n≤9223372036854775806) (hs:∀ x ∈ l,x.sl.size≤9223372036854775807) :
  Calls prog 45 #[.agg #[.slice A0 n0 d0,.slice A1 n1 d1,.slice A2 n2 d2],.slice A n c] w fun e w'=>e=.returned (.int .i64 (bothE L PL X l))∧Below w.heap.size w w':=by
 have HCk:=hj_ (fun w h1 h2 h3=>qtm A0 n0 d0 H L A1 n1 d1 PL A2 n2 d2 X w h1 hm h2 hn1 h3 hn2 hd2 hcb)
 have HRt:=hj_ (fun w h=>qyl A n c l w h hn hs)
 have hE:bothE L PL X l=if uniE L PL X≠0 then uniE L PL X else rightE l:=rfl
 obtain ⟨W,hW⟩:∃ W,W=(w.alloc (.cells #[.slice A0 n0 d0,.slice A1 n1 d1,.slice A2 n2 d2] 26)):=⟨_,rfl⟩;obtain ⟨hB0,hK0⟩:=box1 #[.slice A0 n0 d0,.slice A1 n1 d1,.slice A2 n2 d2] 26 w W hW;have hK:∀ w',Below W.heap.size W w'→w'.cell? ⟨w.heap.size,0,none⟩=some (.slice A0 n0 d0)∧w'.cell? ⟨w.heap.size,1,none⟩=some (.slice A1 n1 d1)∧w'.cell? ⟨w.heap.size,2,none⟩=some (.slice A2 n2 d2):=fun w' h=>⟨(hK0 w' h) 0 _ rfl,(hK0 w' h) 1 _ rfl,(hK0 w' h) 2 _ rfl⟩
 have HK:=hj_ hK;have HW:=hj_ hW;have HB0:=hj_ hB0;have hB:=Below.refl W.heap.size W;obtain ⟨c0,c1,c2⟩:=hK W hB;clear hW hB0 hK hK0;have HL:=hj_ (hl.below HB0.out);have HP:=hj_ (hp.below HB0.out);have HX:=hj_ (hx.below HB0.out);have HF:=hj_ (hf.below HB0.out);generalize bothE L PL X l=E at *;generalize uniE L PL X=U at *;generalize rightE l=R at *;clear hl hm hp hn1 hx hn2 hd2 hcb hf hn hs
 by_cases hu:U=0
 ·rw [if_neg (fun h=>h hu)] at hE
  subst hu hE
  go_enter func45,ntmps45
  go_wp2_with fail;rw [← HW.out];refine uq_ (HCk.out _ (HL.out.below hB) (HP.out.below hB) (HX.out.below hB)) hB ?_;clear hB;intro wk hB;go_wp2_with fail;refine uq_ (HRt.out _ (HF.out.below hB)) hB ?_;clear hB;intro wk hB;go_wp2_with fail;go_ret;exact ⟨rfl,ht_ HB0.out hB⟩
 ·rw [if_pos hu] at hE
  have g1:(U == 0)=false:=by simpa using hu
  have g2:(U != 0)=true:=by simpa using hu
  subst hE
  go_enter func45,ntmps45
  go_wp2_with fail;rw [← HW.out];refine uq_ (HCk.out _ (HL.out.below hB) (HP.out.below hB) (HX.out.below hB)) hB ?_;clear hB;intro wk hB;go_wp2_with fail;go_ret;exact ⟨rfl,ht_ HB0.out hB⟩
end

end Go.Proofs.YtmcbkdlfhffphaaGreatDoor
