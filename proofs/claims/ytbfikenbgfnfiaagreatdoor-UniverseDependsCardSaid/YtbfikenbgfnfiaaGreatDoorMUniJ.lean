/- Lemmas and contracts of functions, joined for the claim: UFrG, PrCap, UPlainD, UUses, UDep1, UDel, UDel2. -/
import Derived.Test.YtbfikenbgfnfiaaGreatDoorMProE
import Derived.Test.YtbfikenbgfnfiaaGreatDoorMUniI
import Derived.Test.YtbfikenbgfnfiaaGreatDoorMUniA
import Derived.Deep.RegionLaw
import Derived.Lib.SliceRun
import Derived.Test.YtbfikenbgfnfiaaGreatDoorMTake
import Derived.Test.YtbfikenbgfnfiaaGreatDoorMUniG
import Derived.Test.YtbfikenbgfnfiaaGreatDoorMUniB
import Derived.Test.YtbfikenbgfnfiaaGreatDoorMUniF
import Derived.Deep.RegionHeld3
import Derived.Test.YtbfikenbgfnfiaaGreatDoorMUniE
import Derived.Test.YtbfikenbgfnfiaaGreatDoorMUniD
import Derived.Test.YtbfikenbgfnfiaaGreatDoorMUp
namespace Go.Proofs.YtbfikenbgfnfiaaGreatDoor
set_option maxHeartbeats 32000000
open _root_.Go.Proofs.Tryz

section
open Go.RowKit
theorem qft {w:World} {base sz k n c:Nat} {e:TypeId} {A:Option Addr} {xs:List Value} (h:w.ownsRow base e sz (.slice A n c) k xs):n≤c∧c≤9223372036854775807:=by
 obtain ⟨_,⟨h1,_⟩ | ⟨g,cap,cur,h1,_,_,h2,h3,_⟩⟩:=h
 ·cases h1;exact ⟨Nat.le_refl _,Nat.zero_le _⟩
 ·cases h1;exact ⟨h2,h3⟩
end

section
open Go.RowKit
theorem qpe {pg pg':List UInt8} {ad:Int} {f:Fea} {raw:Int} {a:Nat} (hl:pg.length=pg'.length) (h:pg[a]? = pg'[a]?):(setF pg ad f raw)[a]? = (setF pg' ad f raw)[a]?:=by
 unfold setF
 by_cases hb:f.bits=8
 ·rw [if_pos hb,if_pos hb,List.getElem?_set,List.getElem?_set,hl,h]
 ·rw [if_neg hb,if_neg hb,List.getElem?_set,List.getElem?_set,List.getElem?_set,List.getElem?_set,List.length_set,List.length_set,hl,h]
theorem qpc {pg:List UInt8} {ad:Int} {f:Fea} {raw:Int} {a:Nat} {ft:Int} (h1:1≤ad) (hc:0≤f.co∧f.co<ft) (hb:f.bits=8∨f.bits=16) (hf:f.bits=16→0≤f.fi∧f.fi<ft) (ho:¬ (ad≤(a:Int)+1∧(a:Int)+1<ad+ft)):(setF pg ad f raw)[a]? = pg[a]?:=by
 unfold setF;have n1:¬ (ad-1+f.co).toNat=a:=by omega
 by_cases h8:f.bits=8
 ·rw [if_pos h8,List.getElem?_set,if_neg n1]
 ·have h2:=hf (by omega)
  have n2:¬ (ad-1+f.fi).toNat=a:=by omega
  rw [if_neg h8,List.getElem?_set,if_neg n2,List.getElem?_set,if_neg n1]
theorem qpj {L:List (List PT)} {l l':List Am} {x:Fx} {a:Nat} (ht:∀ at_ ho,toldT l x.ch at_ ho=toldT l' x.ch at_ ho) (F:List Fea):∀ {pg pg':List UInt8},pg.length=pg'.length→pg[a]? = pg'[a]?→(setX L l x pg F)[a]? = (setX L l' x pg' F)[a]?:=by
 unfold setX
 induction F with
 | nil=>intro pg pg' _ h;exact h
 | cons f F ih =>
  intro pg pg' hl h;rw [List.foldl_cons,List.foldl_cons];have e:rawF L l x.ch f=rawF L l' x.ch f:=by unfold rawF;rw [ht]
  rw [e];exact ih (by rw [qpd,qpd,hl]) (qpe hl h)
theorem qpg {L:List (List PT)} {l:List Am} {x:Fx} {a:Nat} {ft:Int} (h1:1≤x.ad) (ho:¬ (x.ad≤(a:Int)+1∧(a:Int)+1<x.ad+ft)) (F:List Fea) (hF:∀ f ∈ F,(0≤f.co∧f.co<ft)∧(f.bits=8∨f.bits=16)∧(f.bits=16→0≤f.fi∧f.fi<ft)):∀ pg:List UInt8,(setX L l x pg F)[a]? = pg[a]?:=by
 unfold setX
 induction F with
 | nil=>intro pg;rfl
 | cons f F ih =>
  intro pg;rw [List.foldl_cons,ih (fun g hg=>hF g (List.mem_cons_of_mem _ hg))]
  obtain ⟨c1,c2,c3⟩:=hF f (List.mem_cons_self ..);exact qpc h1 c1 c2 c3 ho
def FitX (PL:List (PC × List Fea)) (x:Fx):Prop:=1≤x.ad∧∀ f ∈ featV PL x.pr,(0≤f.co∧f.co<footV (PL.map Prod.fst) x.pr)∧(f.bits=8∨f.bits=16)∧(f.bits=16→0≤f.fi∧f.fi<footV (PL.map Prod.fst) x.pr)
theorem fit_of {L:List (List PT)} {PL:List (PC × List Fea)} {X:List Fx} (hu:uniE L PL X=0):∀ x ∈ X,FitX PL x:=by
 obtain ⟨-,-,hFx,hFe⟩:=qu8 hu;intro x hx;obtain ⟨i,hi,rfl⟩:=List.getElem_of_mem hx;obtain ⟨hrn,-,-,p,hp⟩:=hFx i hi;refine ⟨?_,?_⟩
 ·unfold qkt at hrn
  simp only [Bool.and_eq_true,decide_eq_true_eq] at hrn;exact hrn.1.2.1
 ·have hpf:=q83 PL X[i].pr
  rw [hp] at hpf;intro f hf;unfold featV at hf
  cases hq:PL.find? (fun x=>decide (x.1.s=X[i].pr)) with
  | none=>rw [hq] at hf;exact absurd hf (List.not_mem_nil)
  | some y =>
   rw [hq] at hf hpf
   injection hpf with hpf
   have hft:footV (PL.map Prod.fst) X[i].pr=y.1.ft:=by unfold footV;rw [hp,hpf]
   have hg:=hFe y (List.mem_of_find?_eq_some hq) f hf;rw [hft];exact ⟨hg.2.1,(q0g hg.1).2.1,hg.2.2⟩
theorem qga {L:List (List PT)} {l l':List Am} {PL:List (PC × List Fea)} {u:Int} {a:Nat} (X:List Fx) (hX:∀ x ∈ X,FitX PL x) (h:∀ x ∈ X,usesB (PL.map Prod.fst) x u ((a:Int)+1)=true→∀ at_ ho,toldT l x.ch at_ ho=toldT l' x.ch at_ ho):(pageV L l PL X u)[a]? = (pageV L l' PL X u)[a]?:=by
 unfold pageV
 suffices key:∀ pg pg':List UInt8,pg.length=pg'.length→pg[a]? = pg'[a]?→(X.foldl (fun pg x=>if x.un=u then setX L l x pg (featV PL x.pr) else pg) pg)[a]? = (X.foldl (fun pg x=>if x.un=u then setX L l' x pg (featV PL x.pr) else pg) pg')[a]? from key _ _ rfl rfl
 induction X with
 | nil=>intro pg pg' _ h;exact h
 | cons x X ih =>
  intro pg pg' hl hp;rw [List.foldl_cons,List.foldl_cons];have ih2:=ih (fun y hy=>hX y (List.mem_cons_of_mem _ hy)) (fun y hy=>h y (List.mem_cons_of_mem _ hy))
  by_cases hu:x.un=u
  ·rw [if_pos hu,if_pos hu]
   refine ih2 _ _ (by rw [qph,qph,hl]) ?_
   obtain ⟨h1,hf⟩:=hX x (List.mem_cons_self ..)
   cases hus:usesB (PL.map Prod.fst) x u ((a:Int)+1) with
   | true=>exact qpj (h x (List.mem_cons_self ..) hus) _ hl hp
   | false =>
    have ho:¬ (x.ad≤(a:Int)+1∧(a:Int)+1<x.ad+footV (PL.map Prod.fst) x.pr):=fun ⟨h2,h3⟩=>by
     unfold usesB at hus;rw [decide_eq_true hu,decide_eq_true h2,decide_eq_true h3] at hus
     cases hus
    rw [qpg h1 ho _ hf,qpg h1 ho _ hf];exact hp
  ·rw [if_neg hu,if_neg hu]
   exact ih2 _ _ hl hp
theorem qa7 (l:List Am):givE l=0↔l.length≤4096∧(∀ a ∈ l,paramE a.ch a.at_=0∧errLv a.lev.data.toList=0)∧l.Pairwise (fun x y=>q15 x y=true):=by
 constructor
 ·intro h
  refine ⟨(qa5 h).1,fun a ha=>?_,?_⟩
  ·obtain ⟨i,hi,rfl⟩:=List.getElem_of_mem ha
   have:=am_ok ((qa5 h).2 i hi)
   rw [qa1 hi] at this;exact ⟨this.2.2,this.1⟩
  ·rw [List.pairwise_iff_getElem]
   intro i j hi hj hij
   have:=qa6 h hij hj
   rwa [qa1 hi,qa1 hj] at this
 ·rintro ⟨h1,h2,h3⟩
  unfold givE;rw [if_neg (by omega)]
  refine q86 fun i hi=>?_
  obtain ⟨p1,p2⟩:=h2 _ (List.getElem_mem hi);unfold amE;rw [qa1 hi,if_neg (fun h=>h p1),if_neg (fun h=>h p2),if_neg]
  rintro ⟨h4,h5⟩;rw [qa1 (by omega)] at h5
  have:=List.pairwise_iff_getElem.1 h3 (i-1) i (by omega) hi (by omega)
  rw [this] at h5
  cases h5
def outA (l:List Am) (k:Nat):List Am:=l.take k ++ l.drop (k+1)
theorem qfn (l:List Am) (k:Nat):(outA l k).Sublist l:=by
 unfold outA;have h:(l.take k ++ l.drop (k+1)).Sublist (l.take k ++ l.drop k):=List.Sublist.append (List.Sublist.refl _) (by
  rw [show l.drop (k+1)=(l.drop k).drop 1 by rw [List.drop_drop]]
  exact List.drop_sublist _ _)
 rwa [List.take_append_drop] at h
theorem qa9 {l:List Am} (h:givE l=0) (k:Nat):givE (outA l k)=0:=by
 obtain ⟨h1,h2,h3⟩:=(qa7 l).1 h;have hs:=qfn l k;exact (qa7 _).2 ⟨Nat.le_trans hs.length_le h1,fun a ha=>h2 a (hs.subset ha),h3.sublist hs⟩
theorem qsm {l:List Am} {k:Nat} (hk:k<l.length) {ch at_ ho:Int} (h:¬ l[k].ch=ch):toldT l ch at_ ho=toldT (outA l k) ch at_ ho:=by
 have e:l.find? (fun a=>decide (a.ch=ch) && decide (a.at_=at_))=(outA l k).find? fun a=>decide (a.ch=ch) && decide (a.at_=at_):=by
  unfold outA;have hl:l=l.take k ++ (l[k] :: l.drop (k+1)):=by rw [← List.drop_eq_getElem_cons hk,List.take_append_drop]
  conv=>lhs;rw [hl]
  rw [List.find?_append,List.find?_append,List.find?_cons,decide_eq_false h,Bool.false_and]
 unfold toldT;rw [e]
theorem qdv {f g:Fm} {x:Cg}:∀ k,x ∈ difR f g k→x.un=f.un∧∃ j:Nat,j<k∧x.ad=(j:Int)+1∧g.at_ j≠f.at_ j
 | 0,h=>absurd h (List.not_mem_nil)
 | k+1,h=>by
  rw [difR] at h
  rcases List.mem_append.1 h with h | h
  ·obtain ⟨h1,j,h2,h3⟩:=qdv k h
   exact ⟨h1,j,by omega,h3⟩
  ·by_cases he:g.at_ k=f.at_ k
   ·rw [if_pos he] at h;exact absurd h (List.not_mem_nil)
   ·rw [if_neg he,List.mem_singleton] at h
    subst h;exact ⟨rfl,k,by omega,rfl,he⟩
theorem qdu {a b:List Fm} {x:Cg}:∀ n,x ∈ difA a b n→∃ i:Nat,i<n∧x.un=(a.getD i fm0).un∧∃ j:Nat,j<512∧x.ad=(j:Int)+1∧(b.getD i fm0).at_ j≠(a.getD i fm0).at_ j
 | 0,h=>absurd h (List.not_mem_nil)
 | n+1,h=>by
  rw [difA] at h
  rcases List.mem_append.1 h with h | h
  ·obtain ⟨i,h1,h2⟩:=qdu n h
   exact ⟨i,by omega,h2⟩
  ·exact ⟨n,by omega,qdv 512 h⟩
theorem q9m (used:Int→Bool) (c:Int→List UInt8):∀ n,∀ x ∈ frmG used c n,x.sl=⟨(c x.un).toArray⟩
 | 0,x,h=>absurd h (List.not_mem_nil)
 | n+1,x,h=>by
  rw [frmG] at h
  rcases List.mem_append.1 h with h | h
  ·exact q9m used c n x h
  ·cases hu:used ((n:Int)+1) with
   | false=>rw [hu] at h;simp at h
   | true =>
    rw [hu,if_pos rfl,List.mem_singleton] at h;subst h
    rfl
theorem q5f {L:List (List PT)} {PL:List (PC × List Fea)} {X:List Fx} {l:List Am} {k:Nat} (hu:uniE L PL X=0) (hk:k<l.length) {x:Cg} (hx:x ∈ difA (frmG (usedU X) (pageV L l PL X) 8) (frmG (usedU X) (pageV L (outA l k) PL X) 8) (frmG (usedU X) (pageV L l PL X) 8).length) :
  X.any (fun y=>decide (y.ch=l[k].ch) && usesB (PL.map Prod.fst) y x.un x.ad)=true:=by
 obtain ⟨i,hi,hun,j,hj,had,hne⟩:=qdu _ hx;have hmap:=q9n (usedU X) (pageV L l PL X) (pageV L (outA l k) PL X) 8;have hq:=q6v hmap;have hl:=q6u hq;have hun2:=eqU_at hq i hi (by omega)
 rw [qa1 hi] at hun hne;rw [qa1 (by omega)] at hne
 have s1:=q9m _ _ 8 _ (List.getElem_mem hi);have s2:=q9m _ _ 8 _ (List.getElem_mem (show i<(frmG (usedU X) (pageV L (outA l k) PL X) 8).length by omega))
 cases hany:X.any (fun y=>decide (y.ch=l[k].ch) && usesB (PL.map Prod.fst) y x.un x.ad) with
 | true=>rfl
 | false =>
  exfalso
  rw [List.any_eq_false] at hany;have hs:=qga (L:=L) (l:=l) (l':=outA l k) (PL:=PL) (u:=x.un) (a:=j) X (fit_of hu) (fun y hy hus at_ ho=>qsm hk (fun e=>hany y hy (by rw [had,hus,decide_eq_true e.symm];rfl)))
  refine hne ?_;unfold Fm.at_
  rw [s1,s2,← hun2,← hun];show (pageV L (outA l k) PL X x.un).getD j 0=(pageV L l PL X x.un).getD j 0
  rw [List.getD_eq_getElem?_getD,List.getD_eq_getElem?_getD,hs]
end

section
open Go.RowKit
theorem infoAm:(prog.info? 46).map (fun i=>(i.zero,i.size,i.bytes))=some (some (.agg #[.int .i64 0,.int .i64 0,.string ⟨#[]⟩]),3,32):=by kernel_rfl
set_option maxRecDepth 100000 in
theorem q3j (w:World) (ty:TypeId) (b o c:Nat) (hc:∀ j,j<3→(w.cell? ⟨b,o+j,none⟩).isSome=true) (hf:∀ j,j<3→w.frozen? ⟨b,o+j,none⟩=false) :
  (Builtin.clear_ #[27] ty #[.slice (some ⟨b,o,none⟩) 1 c]).run prog w=.ok (.tuple #[]) (w.setCells b o [.int .i64 0,.int .i64 0,.string ⟨#[]⟩]):=by
 have hv:∀ w,(zeroValue 46).run prog w=.ok (.agg #[.int .i64 0,.int .i64 0,.string ⟨#[]⟩]) w:=fun w=>by kernel_rfl
 have hzc:(Builtin.zeroCells (Value.cells (.agg #[.int .i64 0,.int .i64 0,.string ⟨#[]⟩])) 1).toList=[.int .i64 0,.int .i64 0,.string ⟨#[]⟩]:=by kernel_rfl
 have hst:=run_storeCells_cells (P:=prog) b o [.int .i64 0,.int .i64 0,.string ⟨#[]⟩] 0 w (by simpa using hc) (by simpa using hf) (by intro v hv';simp at hv';rcases hv' with rfl | rfl | rfl <;> rfl)
 simp only [Nat.add_zero] at hst;simp [Builtin.clear_,run_underlying underlying27,hv,hzc,hst]
theorem q01k (l:List Am):∀ u ∈ shAm.vs l,u.oneCell' = true:=by
 intro u hu;simp only [Sh.vs,List.mem_flatMap] at hu;obtain ⟨r,_,h⟩:=hu;exact shAm.one r u h
theorem am_at1 (l:List Am):(shAm.vs l).length=l.length*3:=shAm.vs_length l
set_option maxRecDepth 100000 in
theorem q3l (A:Option Addr) (n c:Nat) (l:List Am) (w:World) (hl:shAm.In w A n l) (hn:n≤40) :
  Calls prog 20 #[.slice A n c] w fun e w'=>∃ v',e=.returned v'∧w'.ownsRow w.heap.size 46 3 v' n (shAm.vs l)∧Below w.heap.size w w':=by
 obtain ⟨i0,hi,hz0,hzz1,hz2⟩:=info_parts infoAm;have q22:∀ (w:World) (a:Option Addr) (n c n' c':Nat),(binOp .eql 27 (.slice a n c) (.slice none n' c')).run prog w=.ok (.bool a.isNone) w:=fun w a n c n' c'=>Lib.run_eql_slice_nil w _ _ a n c n' c' underlying27
 cases A with
 | none =>
  obtain rfl:l=[]:=by
   match l,hl with
   | [],_=>rfl
   | a :: t,hl=>obtain ⟨b,o,e,_⟩:=hl.at_ (by simp);cases e
  obtain ⟨rfl,_⟩:=hl;clear hi hz0 hzz1 hz2
  go_enter func20,ntmps20
  go_wp2;go_ret;exact ⟨_,rfl,World.ownsRow_nil _ _ _ _,Below.refl _ _⟩
 | some a =>
  have hlen:(shAm.vs l).length=n*3:=by rw [shAm.vs_length,← hl.1];rfl
  have hnews:Hid (∀ j u,(shAm.vs l)[j]? = some u→w.cell? (a.add j)=some u):=Lib.hid (fun j u hu=>by
   have hlt:j<(shAm.vs l).length:=(List.getElem?_eq_some_iff.1 hu).1;obtain ⟨b,o,e,hb,hc⟩:=hl.2.2 (by omega)
   injection e with e
   subst e
   have:=hc j u hu
   rwa [show ((⟨b,o,none⟩:Addr).add j)=⟨b,o+j,none⟩ by unfold Addr.add;split <;> simp_all])
  have hone:=q01k l;generalize shAm.vs l=L at *;clear hl
  go_enter func20,ntmps20
  go_wp2_with (at_builtin;refine wpList_append_own _ rfl _ _ 27 rfl w.heap.size 46 i0 _ 3 32 underlying27 hi hz0 hzz1 hz2 rfl (by decide) _ _ _ rfl (World.ownsRow_made w #[] 0 (Nat.le_refl _) (Nat.zero_le _) (by simp)) a n c L rfl hlen (fun j u hj=>Lib.cell?_alloc_some _ (hnews.out j u hj)) hone (by unfold maxLen;omega) (by omega) (by simp) ?_)
  intro v' w1 hown hgrow hnil;clear hnil;go_wp2;go_ret;refine ⟨v',rfl,by simpa using hown,?_⟩
  exact ((Below.refl _ w).alloc (Nat.le_refl _) _).grown hgrow (by simp) (by intro k hk;simp [Value.ownBlock] at hk;omega)
end

section
open Go.RowKit
theorem qz4 (l:List Am) (k:Nat) {t:Nat} {u:Value} (h:(shAm.vs (l.drop k))[t]? = some u):(shAm.vs l)[k*3+t]? = some u:=by
 by_cases hk:k≤l.length
 ·have e:shAm.vs l=shAm.vs (l.take k) ++ shAm.vs (l.drop k):=by rw [← Sh.vs_append,List.take_append_drop]
  have hl:(shAm.vs (l.take k)).length=k*3:=by rw [am_at1,List.length_take];congr 1;omega
  rw [e,List.getElem?_append_right (by omega),hl,Nat.add_sub_cancel_left]
  exact h
 ·rw [List.drop_eq_nil_of_le (by omega)] at h
  simp [Sh.vs] at h
theorem qah (w:World) (g o:Nat) (vs:List Value):w.grownBy (w.setCells g o vs) (some g):=by
 induction vs generalizing o w with
 | nil=>exact World.grownBy.refl _ _
 | cons v vs ih=>exact (qag w g o v).trans (ih (w.setCell ⟨g,o,none⟩ v) (o+1))
set_option maxRecDepth 100000 in
theorem q54 (base g cap:Nat) (l:List Am) (k:Nat) (w:World) (hown:w.ownsRow base 46 3 (.slice (some ⟨g,0,none⟩) l.length cap) l.length (shAm.vs l)) (hk:k<l.length) (hmax:l.length≤40) :
  Calls prog 19 #[.slice (some ⟨g,0,none⟩) l.length cap,.int .i64 k,.int .i64 ((k:Int)+1)] w fun e w'=>e=.returned (.slice (some ⟨g,0,none⟩) (k+(l.length-(k+1))) cap)∧shAm.In w' (some ⟨g,0,none⟩) (k+(l.length-(k+1))) (outA l k)∧w.grownBy w' (some g):=by
 obtain ⟨i0,hi0,hz0,hz1,hz2⟩:=info_parts infoAm;have hcap:=qft hown;obtain ⟨cur,hcur⟩:=qfr hown;have hR:RowAt w g cur 46:=hcur;have hc:∀ j u,(shAm.vs l)[j]? = some u→w.cell? ⟨g,j,none⟩=some u:=fun j u hu=>by
  have h:=hown.cells (g:=g) rfl j u hu;unfold Addr.add at h
  split at h <;> simp_all
 have hlv:=am_at1 l;obtain ⟨news,hnews⟩:∃ news,news=shAm.vs (l.drop (k+1)):=⟨_,rfl⟩;have hlen:news.length=(l.length-(k+1))*3:=by rw [hnews,am_at1,List.length_drop]
 obtain ⟨A,hA,hsrc⟩:∃ A:Addr,(if cap=k+1 then (some (⟨g,0,none⟩:Addr)) else some ⟨g,(k+1)*3,none⟩)=some A∧Hid (∀ t u,news[t]? = some u→w.drew.cell? (A.add t)=some u):=by
  by_cases h:cap=k+1
  ·refine ⟨⟨g,0,none⟩,by rw [if_pos h],fun t u hu=>?_⟩
   have h0:news.length=0:=by rw [hlen];omega
   rw [List.length_eq_zero_iff.1 h0] at hu;simp at hu
  ·refine ⟨⟨g,(k+1)*3,none⟩,by rw [if_neg h],fun t u hu=>?_⟩
   rw [hnews] at hu;rw [Addr.add_lit]
   have:=hc _ u (qz4 l (k+1) hu)
   exact this
 have s1:Hid (news.length=(l.length-(k+1))*3):=hlen;have s2:Hid (∀ u ∈ news,u.oneCell' = true):=by rw [hnews];exact q01k _
 have hsome:∀ j,j<l.length*3→(w.cell? ⟨g,j,none⟩).isSome=true:=fun j hj=>by
  rw [hc j _ (List.getElem?_eq_getElem (by omega))]
  rfl
 have s3:Hid (∀ t,t<news.length→(w.drew.cell? ⟨g,0+k*3+t,none⟩).isSome=true∧w.drew.frozen? ⟨g,0+k*3+t,none⟩=false):=fun t ht=>by
  rw [hlen] at ht;exact ⟨hsome _ (by omega),hR.fr _⟩
 obtain ⟨W1,hW1⟩:∃ W1,W1=w.drew.setCells g (0+k*3) news:=⟨_,rfl⟩;have hcl:∀ ty,(Builtin.clear_ #[27] ty #[.slice (some ⟨g,(k+(l.length-(k+1)))*3,none⟩) (l.length-(k+(l.length-(k+1)))) (cap-(k+(l.length-(k+1))))]).run prog W1=.ok (.tuple #[]) (W1.setCells g ((k+(l.length-(k+1)))*3) [.int .i64 0,.int .i64 0,.string ⟨#[]⟩]):=fun ty=>by
  rw [show l.length-(k+(l.length-(k+1)))=1 by omega]
  refine q3j W1 ty g _ _ (fun j hj=>?_) (fun j hj=>?_)
  ·rw [hW1,World.cell?_setCells_out g news _ _ _ (fun _ _=>.inr (by rw [hlen];show 0+k*3+(l.length-(k+1))*3≤(k+(l.length-(k+1)))*3+j;omega))]
   exact hsome _ (by omega)
  ·rw [hW1,World.frozen?_setCells]
   exact hR.fr _
 have HPost:=Lib.hid (show shAm.In (W1.setCells g ((k+(l.length-(k+1)))*3) [.int .i64 0,.int .i64 0,.string ⟨#[]⟩]) (some ⟨g,0,none⟩) (k+(l.length-(k+1))) (outA l k)∧w.grownBy (W1.setCells g ((k+(l.length-(k+1)))*3) [.int .i64 0,.int .i64 0,.string ⟨#[]⟩]) (some g) from by
  have hg:w.grownBy (W1.setCells g ((k+(l.length-(k+1)))*3) [.int .i64 0,.int .i64 0,.string ⟨#[]⟩]) (some g):=by
   refine World.grownBy.trans ?_ (qah _ _ _ _);rw [hW1];exact (qae (row:=some g) (Below.refl w.heap.size w).drew).trans (qah _ _ _ _)
  refine ⟨⟨by unfold outA;rw [List.length_append,List.length_take,List.length_drop];omega,?_⟩,hg⟩
  refine ⟨by rw [am_at1];unfold outA;rw [List.length_append,List.length_take,List.length_drop];show _=_*3;congr 1;omega,fun _=>⟨g,0,rfl,Nat.lt_of_lt_of_le hR.lt hg.size,fun j u hu=>?_⟩⟩
  have hj:j<(k+(l.length-(k+1)))*3:=by
   have:=(List.getElem?_eq_some_iff.1 hu).1
   rw [am_at1] at this;unfold outA at this;rw [List.length_append,List.length_take,List.length_drop] at this;omega
  rw [World.cell?_setCells_out g _ _ _ _ (fun _ _=>.inl (by show 0+j<(k+(l.length-(k+1)))*3;omega)),hW1]
  unfold outA at hu;rw [Sh.vs_append] at hu;have ht:(shAm.vs (l.take k)).length=k*3:=by rw [am_at1,List.length_take];congr 1;omega
  by_cases hjk:j<k*3
  ·rw [List.getElem?_append_left (by omega)] at hu
   rw [World.cell?_setCells_out g _ _ _ _ (fun _ _=>.inl (by show 0+j<0+k*3;omega)),Nat.zero_add]
   refine hc j u ?_;have e:shAm.vs l=shAm.vs (l.take k) ++ shAm.vs (l.drop k):=by rw [← Sh.vs_append,List.take_append_drop]
   rw [e,List.getElem?_append_left (by omega)]
   exact hu
  ·rw [List.getElem?_append_right (by omega),ht,← hnews] at hu
   obtain ⟨hlt,hge⟩:=List.getElem?_eq_some_iff.1 hu
   have:=World.cell?_setCells_in g news (0+k*3) w.drew (fun t ht=>(s3 t ht).1) (j-k*3) hlt
   rw [show 0+k*3+(j-k*3)=0+j by omega,hge] at this
   exact this)
 have hW:Hid (W1=w.drew.setCells g (0+k*3) news):=hW1;have i1:(0:Int)≤(k:Int):=by omega
 have i2:(k:Int)≤(k:Int)+1:=by omega
 have i3:(k:Int)+1≤(l.length:Int):=by omega
 have i4:(l.length:Int)≤(cap:Int):=by omega
 have i5:((k:Int) == (k:Int)+1)=false:=by rw [beq_eq_false_iff_ne];omega
 have i6:(k:Int)+1≤(cap:Int):=by omega
 have i7:(k:Int)≤(cap:Int):=by omega
 have i8:(0:Int)≤(k:Int)+1:=by omega
 clear hW1 hsome hc hlv hR hcur hown hnews hlen
 go_enter func19,ntmps19
 go_wp2_with fail
 go_region_law (refine step_append_room rfl (.tmp 22) (.tmp 25) 27 rfl 46 i0 3 underlying27 hi0 hz1 g 0 k cap (by simp [Act.eval,Act.put]) A (l.length-(k+1)) (cap-(k+1)) news (by simp [Act.eval,Act.put]) s1.out hsrc.out s2.out (by omega) s3.out ?_;rw [← hW.out])
 go_wp2_with fail;go_ret;exact ⟨rfl,HPost.out⟩
end

section
open Go.RowKit
set_option maxRecDepth 100000 in
theorem qo2 (A:Option Addr) (n c:Nat) (P:List PC) (x:Fx) (u a:Int) (w:World) (hl:shPr.In w A n P) (hn:n≤9223372036854775806) (hx:FxOK P x) :
  Calls prog 24 #[.slice A n c,x.val,.int .i64 u,.int .i64 a] w fun e w'=>e=.returned (.bool (usesB P x u a))∧Below w.heap.size w w':=by
 have hov:usesB P x u a=(decide (x.un=u) && decide (x.ad≤a) && decide (a<x.ad+footV P x.pr)):=rfl;obtain ⟨hx1,hx2,hx3,px,hx4⟩:=hx;have hxa:1≤x.ad:=by
  have h:¬ _:=fun h2=>absurd ((qku (x:=x)).2 h2) (by rw [hx1];decide)
  omega
 have HX:=Lib.hid (fun w' hl=>qnp A n c P x w' hl hn px hx4)
 obtain ⟨ch,pt,pr,un,ad,ph,cb⟩:=x;dsimp only at hov hx2 hx3 hxa;replace HX:=Lib.hid (show ∀ w',shPr.In w' A n P→Calls prog 69 #[.slice A n c,.agg #[.int .i64 ch,.int .i64 pt,.string pr,.int .i64 un,.int .i64 ad,.int .i64 ph,.string cb]] w' fun e w''=>e=.returned (.int .i64 (footV P pr))∧Below w'.heap.size w' w'' from HX.out)
 show Calls prog 24 #[.slice A n c,.agg #[.int .i64 ch,.int .i64 pt,.string pr,.int .i64 un,.int .i64 ad,.int .i64 ph,.string cb],.int .i64 u,.int .i64 a] w fun e w'=>e=.returned (.bool (usesB P ⟨ch,pt,pr,un,ad,ph,cb⟩ u a))∧Below w.heap.size w w'
 generalize usesB P _ _ _=q at *;generalize footV P pr=F at *;have he:(un == u)=decide (un=u):=by rw [Bool.eq_iff_iff];simp
 have w1:IntKind.i64.wrap (ad+F)=ad+F:=IntWalk.i64_in _ (by omega)
 obtain ⟨W,hW⟩:∃ W,W=(w.alloc (.cells #[.int .i64 ch,.int .i64 pt,.string pr,.int .i64 un,.int .i64 ad,.int .i64 ph,.string cb] 55)):=⟨_,rfl⟩;obtain ⟨hB0,hK0⟩:=box1 #[.int .i64 ch,.int .i64 pt,.string pr,.int .i64 un,.int .i64 ad,.int .i64 ph,.string cb] 55 w W hW;have hK:∀ w',Below W.heap.size W w'→w'.cell? ⟨w.heap.size,0,none⟩=some (.int .i64 ch)∧w'.cell? ⟨w.heap.size,1,none⟩=some (.int .i64 pt)∧w'.cell? ⟨w.heap.size,2,none⟩=some (.string pr)∧w'.cell? ⟨w.heap.size,3,none⟩=some (.int .i64 un)∧w'.cell? ⟨w.heap.size,4,none⟩=some (.int .i64 ad)∧w'.cell? ⟨w.heap.size,5,none⟩=some (.int .i64 ph)∧w'.cell? ⟨w.heap.size,6,none⟩=some (.string cb):=fun w' h=>⟨(hK0 w' h) 0 _ rfl,(hK0 w' h) 1 _ rfl,(hK0 w' h) 2 _ rfl,(hK0 w' h) 3 _ rfl,(hK0 w' h) 4 _ rfl,(hK0 w' h) 5 _ rfl,(hK0 w' h) 6 _ rfl⟩
 have HK:=Lib.hid hK;have HW:=Lib.hid hW;have HB0:=Lib.hid hB0;have hB:=Below.refl W.heap.size W;obtain ⟨c0,c1,c2,c3,c4,c5,c6⟩:=hK W hB;clear hW hB0 hK hK0;have HL:=Lib.hid (hl.below HB0.out);clear hl hx1 hx4 hn
 by_cases h1:un=u
 case neg =>
  rw [decide_eq_false h1,Bool.false_and,Bool.false_and] at hov;rw [decide_eq_false h1] at he;subst hov;clear h1
  go_enter func24,ntmps24
  go_wp2_with fail;rw [← HW.out];go_quiet (fail);replace hB:=q18 hB nq;go_wp2_with fail;go_ret;exact ⟨rfl,HB0.out.trans (hB.mono HB0.out.size)⟩
 rw [decide_eq_true h1] at he;rw [decide_eq_true h1,Bool.true_and] at hov;clear h1
 by_cases h2:ad≤a
 case neg =>
  rw [decide_eq_false h2,Bool.false_and] at hov;have g2:decide (ad≤a)=false:=decide_eq_false h2;subst hov;clear h2
  go_enter func24,ntmps24
  go_wp2_with fail;rw [← HW.out];go_quiet (fail);replace hB:=q18 hB nq;go_wp2_with fail;go_ret;exact ⟨rfl,HB0.out.trans (hB.mono HB0.out.size)⟩
 rw [decide_eq_true h2,Bool.true_and] at hov;have g2:decide (ad≤a)=true:=decide_eq_true h2;clear h2
 by_cases h3:a<ad+F
 ·rw [decide_eq_true h3] at hov
  have g3:decide (a<ad+F)=true:=decide_eq_true h3;subst hov;clear h3
  go_enter func24,ntmps24
  go_wp2_with fail;rw [← HW.out];replace hB:=q18 hB 1;obtain ⟨c0,c1,c2,c3,c4,c5,c6⟩:=HK.out _ hB;refine wp_region_held_drew (S:=fun w'=>w'.cell? ⟨w.heap.size,0,none⟩=some (.int .i64 ch)∧w'.cell? ⟨w.heap.size,1,none⟩=some (.int .i64 pt)∧w'.cell? ⟨w.heap.size,2,none⟩=some (.string pr)∧w'.cell? ⟨w.heap.size,3,none⟩=some (.int .i64 un)∧w'.cell? ⟨w.heap.size,4,none⟩=some (.int .i64 ad)∧w'.cell? ⟨w.heap.size,5,none⟩=some (.int .i64 ph)∧w'.cell? ⟨w.heap.size,6,none⟩=some (.string cb)) (by kernel_rfl) (by first | exact ⟨c0,c1,c2,c3,c4,c5,c6⟩) (fun hHeld=>?_)
  repeat
   refine tk (i:=?_) (oi:=?_) (v:=?_) ?_ ?_ ?_ ?_ ?_ ?_ ?_ ?_ ?_
   rotate_left 3
   ·first | exact Eq.refl 0 | exact Eq.refl 1 | exact Eq.refl 2 | exact Eq.refl 3 | exact Eq.refl 4 | exact Eq.refl 5 | exact Eq.refl 6 | exact Eq.refl 7 | exact Eq.refl 8 | exact Eq.refl 9 | exact Eq.refl 10 | exact Eq.refl 11 | exact Eq.refl 12 | exact Eq.refl 13 | exact Eq.refl 14 | exact Eq.refl 15 | exact Eq.refl 16 | exact Eq.refl 17 | exact Eq.refl 18 | exact Eq.refl 19 | exact Eq.refl 20 | exact Eq.refl 21 | exact Eq.refl 22 | exact Eq.refl 23 | exact Eq.refl 24 | exact Eq.refl 25 | exact Eq.refl 26 | exact Eq.refl 27
   ·simp only [List.getElem?_toArray,List.getElem?_cons_succ,List.getElem?_cons_zero];rfl
   ·kernel_rfl
   ·kernel_rfl
   ·kernel_rfl
   rotate_left 1
   ·first | (refine Or.inl ⟨?_,?_⟩;(· rfl);intro w hSw;(try dsimp only at hSw);go_simp;try with_reducible rfl) | exact Or.inr ⟨rfl,rfl⟩
   ·assumption
   rotate_left 1
   ·exact fun _ _ _ h=>h
   simp only [Act.put,List.setIfInBounds_toArray,List.set_cons_zero,List.set_cons_succ]
  refine wpAnyH_ready (rs:=[16]) (by kernel_rfl) (by simp) ?_
  refine AllReadyH.cons rfl (fun K hK=>?_) AllReadyH.nil
  go_simp
  go_at_call 69;refine uq_ (HX.out _ (HL.out.below hB)) hB ?_;clear hB;intro wk hB;obtain ⟨c0,c1,c2,c3,c4,c5,c6⟩:=HK.out _ hB
  go_wp2_with fail;refine hK.out _ _ (by first | exact ⟨c0,c1,c2,c3,c4,c5,c6⟩) (fun hHeld=>?_)
  clear hK K
  try simp only [Act.put,List.setIfInBounds_toArray,List.set_cons_zero,List.set_cons_succ]
  repeat
   refine tk (i:=?_) (oi:=?_) (v:=?_) ?_ ?_ ?_ ?_ ?_ ?_ ?_ ?_ ?_
   rotate_left 3
   ·first | exact Eq.refl 0 | exact Eq.refl 1 | exact Eq.refl 2 | exact Eq.refl 3 | exact Eq.refl 4 | exact Eq.refl 5 | exact Eq.refl 6 | exact Eq.refl 7 | exact Eq.refl 8 | exact Eq.refl 9 | exact Eq.refl 10 | exact Eq.refl 11 | exact Eq.refl 12 | exact Eq.refl 13 | exact Eq.refl 14 | exact Eq.refl 15 | exact Eq.refl 16 | exact Eq.refl 17 | exact Eq.refl 18 | exact Eq.refl 19 | exact Eq.refl 20 | exact Eq.refl 21 | exact Eq.refl 22 | exact Eq.refl 23 | exact Eq.refl 24 | exact Eq.refl 25 | exact Eq.refl 26 | exact Eq.refl 27
   ·simp only [List.getElem?_toArray,List.getElem?_cons_succ,List.getElem?_cons_zero];rfl
   ·kernel_rfl
   ·kernel_rfl
   ·kernel_rfl
   rotate_left 1
   ·first | (refine Or.inl ⟨?_,?_⟩;(· rfl);intro w hSw;(try dsimp only at hSw);go_simp;try with_reducible rfl) | exact Or.inr ⟨rfl,rfl⟩
   ·assumption
   rotate_left 1
   ·exact fun _ _ _ h=>h
   simp only [Act.put,List.setIfInBounds_toArray,List.set_cons_zero,List.set_cons_succ]
  refine wpAnyH_done (by kernel_rfl) ?_ _
  go_wp2_with fail;go_ret;exact ⟨rfl,HB0.out.trans (hB.mono HB0.out.size)⟩
 ·rw [decide_eq_false h3] at hov
  have g3:decide (a<ad+F)=false:=decide_eq_false h3;subst hov;clear h3
  go_enter func24,ntmps24
  go_wp2_with fail;rw [← HW.out];replace hB:=q18 hB 1;obtain ⟨c0,c1,c2,c3,c4,c5,c6⟩:=HK.out _ hB;refine wp_region_held_drew (S:=fun w'=>w'.cell? ⟨w.heap.size,0,none⟩=some (.int .i64 ch)∧w'.cell? ⟨w.heap.size,1,none⟩=some (.int .i64 pt)∧w'.cell? ⟨w.heap.size,2,none⟩=some (.string pr)∧w'.cell? ⟨w.heap.size,3,none⟩=some (.int .i64 un)∧w'.cell? ⟨w.heap.size,4,none⟩=some (.int .i64 ad)∧w'.cell? ⟨w.heap.size,5,none⟩=some (.int .i64 ph)∧w'.cell? ⟨w.heap.size,6,none⟩=some (.string cb)) (by kernel_rfl) (by first | exact ⟨c0,c1,c2,c3,c4,c5,c6⟩) (fun hHeld=>?_)
  repeat
   refine tk (i:=?_) (oi:=?_) (v:=?_) ?_ ?_ ?_ ?_ ?_ ?_ ?_ ?_ ?_
   rotate_left 3
   ·first | exact Eq.refl 0 | exact Eq.refl 1 | exact Eq.refl 2 | exact Eq.refl 3 | exact Eq.refl 4 | exact Eq.refl 5 | exact Eq.refl 6 | exact Eq.refl 7 | exact Eq.refl 8 | exact Eq.refl 9 | exact Eq.refl 10 | exact Eq.refl 11 | exact Eq.refl 12 | exact Eq.refl 13 | exact Eq.refl 14 | exact Eq.refl 15 | exact Eq.refl 16 | exact Eq.refl 17 | exact Eq.refl 18 | exact Eq.refl 19 | exact Eq.refl 20 | exact Eq.refl 21 | exact Eq.refl 22 | exact Eq.refl 23 | exact Eq.refl 24 | exact Eq.refl 25 | exact Eq.refl 26 | exact Eq.refl 27
   ·simp only [List.getElem?_toArray,List.getElem?_cons_succ,List.getElem?_cons_zero];rfl
   ·kernel_rfl
   ·kernel_rfl
   ·kernel_rfl
   rotate_left 1
   ·first | (refine Or.inl ⟨?_,?_⟩;(· rfl);intro w hSw;(try dsimp only at hSw);go_simp;try with_reducible rfl) | exact Or.inr ⟨rfl,rfl⟩
   ·assumption
   rotate_left 1
   ·exact fun _ _ _ h=>h
   simp only [Act.put,List.setIfInBounds_toArray,List.set_cons_zero,List.set_cons_succ]
  refine wpAnyH_ready (rs:=[16]) (by kernel_rfl) (by simp) ?_
  refine AllReadyH.cons rfl (fun K hK=>?_) AllReadyH.nil
  go_simp
  go_at_call 69;refine uq_ (HX.out _ (HL.out.below hB)) hB ?_;clear hB;intro wk hB;obtain ⟨c0,c1,c2,c3,c4,c5,c6⟩:=HK.out _ hB
  go_wp2_with fail;refine hK.out _ _ (by first | exact ⟨c0,c1,c2,c3,c4,c5,c6⟩) (fun hHeld=>?_)
  clear hK K
  try simp only [Act.put,List.setIfInBounds_toArray,List.set_cons_zero,List.set_cons_succ]
  repeat
   refine tk (i:=?_) (oi:=?_) (v:=?_) ?_ ?_ ?_ ?_ ?_ ?_ ?_ ?_ ?_
   rotate_left 3
   ·first | exact Eq.refl 0 | exact Eq.refl 1 | exact Eq.refl 2 | exact Eq.refl 3 | exact Eq.refl 4 | exact Eq.refl 5 | exact Eq.refl 6 | exact Eq.refl 7 | exact Eq.refl 8 | exact Eq.refl 9 | exact Eq.refl 10 | exact Eq.refl 11 | exact Eq.refl 12 | exact Eq.refl 13 | exact Eq.refl 14 | exact Eq.refl 15 | exact Eq.refl 16 | exact Eq.refl 17 | exact Eq.refl 18 | exact Eq.refl 19 | exact Eq.refl 20 | exact Eq.refl 21 | exact Eq.refl 22 | exact Eq.refl 23 | exact Eq.refl 24 | exact Eq.refl 25 | exact Eq.refl 26 | exact Eq.refl 27
   ·simp only [List.getElem?_toArray,List.getElem?_cons_succ,List.getElem?_cons_zero];rfl
   ·kernel_rfl
   ·kernel_rfl
   ·kernel_rfl
   rotate_left 1
   ·first | (refine Or.inl ⟨?_,?_⟩;(· rfl);intro w hSw;(try dsimp only at hSw);go_simp;try with_reducible rfl) | exact Or.inr ⟨rfl,rfl⟩
   ·assumption
   rotate_left 1
   ·exact fun _ _ _ h=>h
   simp only [Act.put,List.setIfInBounds_toArray,List.set_cons_zero,List.set_cons_succ]
  refine wpAnyH_done (by kernel_rfl) ?_ _
  go_wp2_with fail;go_ret;exact ⟨rfl,HB0.out.trans (hB.mono HB0.out.size)⟩
end

section
open Go.RowKit
set_option maxRecDepth 100000 in
theorem qcr (P:List PC) (y:Fx) (Pl Pk Pg Px:Nat) (A:Option Addr) (c:Nat) (l:List Am) (k:Nat) (A1:Option Addr) (n1 d1:Nat) (xu xa:Int) (w:World) (hPl:w.cell? ⟨Pl,0,none⟩=some (.slice A l.length c)) (hPk:w.cell? ⟨Pk,0,none⟩=some (.int .i64 k)) (hPg:w.cell? ⟨Pg,1,none⟩=some (.slice A1 n1 d1)) (hPx:w.cell? ⟨Px,0,none⟩=some (.int .i64 xu)) (hPy:w.cell? ⟨Px,1,none⟩=some (.int .i64 xa))
  (bl:Pl<w.heap.size) (bk:Pk<w.heap.size) (bg:Pg<w.heap.size) (bx:Px<w.heap.size) (hl:shAm.In w A l.length l) (hk:k<l.length) (hp:shPr.In w A1 n1 P) (hn1:n1≤9223372036854775806) (hy:FxOK P y) :
  Calls prog 23 #[y.val,.pointer (some ⟨Pl,0,none⟩),.pointer (some ⟨Pk,0,none⟩),.pointer (some ⟨Pg,0,none⟩),.pointer (some ⟨Px,0,none⟩)] w fun e w'=>e=.returned (.bool (decide (y.ch=l[k].ch) && usesB P y xu xa))∧Below w.heap.size w w':=by
 have HUs:=Lib.hid (fun w h=>qo2 A1 n1 d1 P y xu xa w h hn1 hy)
 obtain ⟨b,o,rfl,hbl,hcell⟩:=am_at hl (by omega)
 have hc0:=(hcell k hk).1;generalize l[k].ch=lc at *;generalize usesB P y xu xa=us at *;obtain ⟨ch,pt,pr,un,ad,ph,cb⟩:=y;dsimp only;replace HUs:=Lib.hid (show ∀ w',shPr.In w' A1 n1 P→Calls prog 24 #[.slice A1 n1 d1,.agg #[.int .i64 ch,.int .i64 pt,.string pr,.int .i64 un,.int .i64 ad,.int .i64 ph,.string cb],.int .i64 xu,.int .i64 xa] w' fun e w''=>e=.returned (.bool us)∧Below w'.heap.size w' w'' from HUs.out)
 show Calls prog 23 #[.agg #[.int .i64 ch,.int .i64 pt,.string pr,.int .i64 un,.int .i64 ad,.int .i64 ph,.string cb],.pointer (some ⟨Pl,0,none⟩),.pointer (some ⟨Pk,0,none⟩),.pointer (some ⟨Pg,0,none⟩),.pointer (some ⟨Px,0,none⟩)] w fun e w'=>e=.returned (.bool (decide (ch=lc) && us))∧Below w.heap.size w w'
 obtain ⟨W,hW⟩:∃ W,W=(w.alloc (.cells #[.int .i64 ch,.int .i64 pt,.string pr,.int .i64 un,.int .i64 ad,.int .i64 ph,.string cb] 55)):=⟨_,rfl⟩;obtain ⟨hB0,hK0⟩:=box1 #[.int .i64 ch,.int .i64 pt,.string pr,.int .i64 un,.int .i64 ad,.int .i64 ph,.string cb] 55 w W hW;have hK:∀ w',Below W.heap.size W w'→w'.cell? ⟨w.heap.size,0,none⟩=some (.int .i64 ch)∧w'.cell? ⟨w.heap.size,1,none⟩=some (.int .i64 pt)∧w'.cell? ⟨w.heap.size,2,none⟩=some (.string pr)∧w'.cell? ⟨w.heap.size,3,none⟩=some (.int .i64 un)∧w'.cell? ⟨w.heap.size,4,none⟩=some (.int .i64 ad)∧w'.cell? ⟨w.heap.size,5,none⟩=some (.int .i64 ph)∧w'.cell? ⟨w.heap.size,6,none⟩=some (.string cb):=fun w' h=>⟨(hK0 w' h) 0 _ rfl,(hK0 w' h) 1 _ rfl,(hK0 w' h) 2 _ rfl,(hK0 w' h) 3 _ rfl,(hK0 w' h) 4 _ rfl,(hK0 w' h) 5 _ rfl,(hK0 w' h) 6 _ rfl⟩
 have HK:=Lib.hid hK;have HW:=Lib.hid hW;have HB0:=Lib.hid hB0;have hB:=Below.refl W.heap.size W;obtain ⟨c0,c1,c2,c3,c4,c5,c6⟩:=hK W hB;clear hW hB0 hK hK0;have HP:=Lib.hid (hp.below HB0.out);have HS:=Lib.hid (fun (w':World) (h:Below W.heap.size W w')=>show w'.cell? ⟨w.heap.size,0,none⟩=some (.int .i64 ch)∧w'.cell? ⟨w.heap.size,1,none⟩=some (.int .i64 pt)∧w'.cell? ⟨w.heap.size,2,none⟩=some (.string pr)∧w'.cell? ⟨w.heap.size,3,none⟩=some (.int .i64 un)∧w'.cell? ⟨w.heap.size,4,none⟩=some (.int .i64 ad)∧w'.cell? ⟨w.heap.size,5,none⟩=some (.int .i64 ph)∧w'.cell? ⟨w.heap.size,6,none⟩=some (.string cb)∧w'.cell? ⟨Pl,0,none⟩=some (.slice (some ⟨b,o,none⟩) l.length c)∧w'.cell? ⟨Pk,0,none⟩=some (.int .i64 k)∧w'.cell? ⟨Pg,1,none⟩=some (.slice A1 n1 d1)∧w'.cell? ⟨Px,0,none⟩=some (.int .i64 xu)∧w'.cell? ⟨Px,1,none⟩=some (.int .i64 xa)∧w'.cell? ⟨b,o+k*3,none⟩=some (.int .i64 lc) from
  have q:=HK.out w' h
  ⟨q.1,q.2.1,q.2.2.1,q.2.2.2.1,q.2.2.2.2.1,q.2.2.2.2.2.1,q.2.2.2.2.2.2,(h.cell (p:=⟨Pl,0,none⟩) (Nat.lt_of_lt_of_le bl HB0.out.size)).trans ((HB0.out.cell (p:=⟨Pl,0,none⟩) bl).trans hPl),(h.cell (p:=⟨Pk,0,none⟩) (Nat.lt_of_lt_of_le bk HB0.out.size)).trans ((HB0.out.cell (p:=⟨Pk,0,none⟩) bk).trans hPk),(h.cell (p:=⟨Pg,1,none⟩) (Nat.lt_of_lt_of_le bg HB0.out.size)).trans ((HB0.out.cell (p:=⟨Pg,1,none⟩) bg).trans hPg),(h.cell (p:=⟨Px,0,none⟩) (Nat.lt_of_lt_of_le bx HB0.out.size)).trans ((HB0.out.cell (p:=⟨Px,0,none⟩) bx).trans hPx),(h.cell (p:=⟨Px,1,none⟩) (Nat.lt_of_lt_of_le bx HB0.out.size)).trans ((HB0.out.cell (p:=⟨Px,1,none⟩) bx).trans hPy),(h.cell (p:=⟨b,o+k*3,none⟩) (Nat.lt_of_lt_of_le hbl HB0.out.size)).trans ((HB0.out.cell (p:=⟨b,o+k*3,none⟩) hbl).trans hc0)⟩)
 have i0:(0:Int)≤(k:Int):=by omega
 have i1:(k:Int)<(l.length:Int):=by omega
 clear hl hp hn1 hy hcell hc0 hPl hPk hPg hPx hPy bl bk bg bx hbl
 by_cases h1:ch=lc
 case neg =>
  have e9:(ch == lc)=false:=by simpa using h1
  rw [decide_eq_false h1,Bool.false_and];clear h1
  go_enter func23,ntmps23
  go_wp2_with fail;rw [← HW.out];obtain ⟨c0,c1,c2,c3,c4,c5,c6,e0,e1,e2,e3,e4,e5⟩:=HS.out _ hB;go_quiet (fail);replace hB:=q18 hB nq;go_wp2_with fail;go_ret;exact ⟨rfl,HB0.out.trans (hB.mono HB0.out.size)⟩
 case pos =>
  have e9:(ch == lc)=true:=by simpa using h1
  rw [decide_eq_true h1,Bool.true_and];clear h1
  go_enter func23,ntmps23
  go_wp2_with fail;rw [← HW.out];replace hB:=q18 hB 1;obtain ⟨c0,c1,c2,c3,c4,c5,c6,e0,e1,e2,e3,e4,e5⟩:=HS.out _ hB;refine wp_region_held_drew (S:=fun w'=>w'.cell? ⟨w.heap.size,0,none⟩=some (.int .i64 ch)∧w'.cell? ⟨w.heap.size,1,none⟩=some (.int .i64 pt)∧w'.cell? ⟨w.heap.size,2,none⟩=some (.string pr)∧w'.cell? ⟨w.heap.size,3,none⟩=some (.int .i64 un)∧w'.cell? ⟨w.heap.size,4,none⟩=some (.int .i64 ad)∧w'.cell? ⟨w.heap.size,5,none⟩=some (.int .i64 ph)∧w'.cell? ⟨w.heap.size,6,none⟩=some (.string cb)∧w'.cell? ⟨Pl,0,none⟩=some (.slice (some ⟨b,o,none⟩) l.length c)∧w'.cell? ⟨Pk,0,none⟩=some (.int .i64 k)∧w'.cell? ⟨Pg,1,none⟩=some (.slice A1 n1 d1)∧w'.cell? ⟨Px,0,none⟩=some (.int .i64 xu)∧w'.cell? ⟨Px,1,none⟩=some (.int .i64 xa)∧w'.cell? ⟨b,o+k*3,none⟩=some (.int .i64 lc)) (by kernel_rfl) (by first | exact ⟨c0,c1,c2,c3,c4,c5,c6,e0,e1,e2,e3,e4,e5⟩) (fun hHeld=>?_)
  repeat
   refine tk (i:=?_) (oi:=?_) (v:=?_) ?_ ?_ ?_ ?_ ?_ ?_ ?_ ?_ ?_
   rotate_left 3
   ·first | exact Eq.refl 0 | exact Eq.refl 1 | exact Eq.refl 2 | exact Eq.refl 3 | exact Eq.refl 4 | exact Eq.refl 5 | exact Eq.refl 6 | exact Eq.refl 7 | exact Eq.refl 8 | exact Eq.refl 9 | exact Eq.refl 10 | exact Eq.refl 11 | exact Eq.refl 12 | exact Eq.refl 13 | exact Eq.refl 14 | exact Eq.refl 15 | exact Eq.refl 16 | exact Eq.refl 17 | exact Eq.refl 18 | exact Eq.refl 19 | exact Eq.refl 20 | exact Eq.refl 21 | exact Eq.refl 22 | exact Eq.refl 23 | exact Eq.refl 24 | exact Eq.refl 25 | exact Eq.refl 26 | exact Eq.refl 27
   ·simp only [List.getElem?_toArray,List.getElem?_cons_succ,List.getElem?_cons_zero];rfl
   ·kernel_rfl
   ·kernel_rfl
   ·kernel_rfl
   rotate_left 1
   ·first | (refine Or.inl ⟨?_,?_⟩;(· rfl);intro w hSw;(try dsimp only at hSw);go_simp;try with_reducible rfl) | exact Or.inr ⟨rfl,rfl⟩
   ·assumption
   rotate_left 1
   ·exact fun _ _ _ h=>h
   simp only [Act.put,List.setIfInBounds_toArray,List.set_cons_zero,List.set_cons_succ]
  refine wpAnyH_ready (rs:=[17]) (by kernel_rfl) (by simp) ?_
  refine AllReadyH.cons rfl (fun K hK=>?_) AllReadyH.nil
  go_simp
  go_at_call 24;refine uq_ (HUs.out _ (HP.out.below hB)) hB ?_;clear hB;intro wk hB;obtain ⟨c0,c1,c2,c3,c4,c5,c6,e0,e1,e2,e3,e4,e5⟩:=HS.out _ hB
  go_wp2_with fail;refine hK.out _ _ (by first | exact ⟨c0,c1,c2,c3,c4,c5,c6,e0,e1,e2,e3,e4,e5⟩) (fun hHeld=>?_)
  clear hK K
  try simp only [Act.put,List.setIfInBounds_toArray,List.set_cons_zero,List.set_cons_succ]
  repeat
   refine tk (i:=?_) (oi:=?_) (v:=?_) ?_ ?_ ?_ ?_ ?_ ?_ ?_ ?_ ?_
   rotate_left 3
   ·first | exact Eq.refl 0 | exact Eq.refl 1 | exact Eq.refl 2 | exact Eq.refl 3 | exact Eq.refl 4 | exact Eq.refl 5 | exact Eq.refl 6 | exact Eq.refl 7 | exact Eq.refl 8 | exact Eq.refl 9 | exact Eq.refl 10 | exact Eq.refl 11 | exact Eq.refl 12 | exact Eq.refl 13 | exact Eq.refl 14 | exact Eq.refl 15 | exact Eq.refl 16 | exact Eq.refl 17 | exact Eq.refl 18 | exact Eq.refl 19 | exact Eq.refl 20 | exact Eq.refl 21 | exact Eq.refl 22 | exact Eq.refl 23 | exact Eq.refl 24 | exact Eq.refl 25 | exact Eq.refl 26 | exact Eq.refl 27
   ·simp only [List.getElem?_toArray,List.getElem?_cons_succ,List.getElem?_cons_zero];rfl
   ·kernel_rfl
   ·kernel_rfl
   ·kernel_rfl
   rotate_left 1
   ·first | (refine Or.inl ⟨?_,?_⟩;(· rfl);intro w hSw;(try dsimp only at hSw);go_simp;try with_reducible rfl) | exact Or.inr ⟨rfl,rfl⟩
   ·assumption
   rotate_left 1
   ·exact fun _ _ _ h=>h
   simp only [Act.put,List.setIfInBounds_toArray,List.set_cons_zero,List.set_cons_succ]
  refine wpAnyH_done (by kernel_rfl) ?_ _
  go_wp2_with fail;go_ret;exact ⟨rfl,HB0.out.trans (hB.mono HB0.out.size)⟩
theorem q3u (g:Nat) (cb:Array Value) (p:Fx→Bool) (A:Option Addr) (n c:Nat) (l:List Fx) (w:World) (eg:∀ args w,(callFunc g args).run prog w=.ok (.enter g args) w) (hl:shX.In w A n l) (hn:n≤9223372036854775807)
  (hf:∀ i (h:i<l.length) (W:World),Below w.heap.size w W→Calls prog g (#[l[i].val] ++ cb) W fun e w'=>e=.returned (.bool (p l[i]))∧Below W.heap.size W w') :
  Calls prog 22 #[.slice A n c,.func (.func g) #[] cb] w fun e w'=>e=.returned (.bool (l.any p))∧Below w.heap.size w w':=by
 have hB:=Below.refl w.heap.size w;have HI:=Lib.hid (qbo g cb p A n c l w eg hl hn hf);have hi:decide (0≤idxOf p l)=l.any p:=by
  rw [Bool.eq_iff_iff,decide_eq_true_eq]
  constructor
  ·intro h
   have hlt:=qbb (p:=p) l;have h2:=qba (p:=p) (l:=l) (k:=(idxOf p l).toNat) (by omega) (by omega)
   exact List.any_eq_true.2 ⟨_,List.getElem_mem _,h2⟩
  ·intro h
   have hge:=qb9 (p:=p) l;refine Classical.byContradiction fun h0=>?_
   have h1:idxOf p l=-1:=by omega
   obtain ⟨x,hx,hp⟩:=List.any_eq_true.1 h;have key:∀ {l:List Fx},idxOf p l=-1→∀ x ∈ l,p x=false:=by
    intro l
    induction l with
    | nil=>intro _ x hx;exact absurd hx (List.not_mem_nil)
    | cons a l ih =>
     intro h x hx;rw [idxOf] at h
     cases ha:p a with
     | true=>rw [ha] at h;simp at h
     | false =>
      rw [ha] at h;simp only [Bool.false_eq_true,if_false] at h;have hg:=qb9 (p:=p) l
      rcases List.mem_cons.1 hx with rfl | hx
      ·exact ha
      ·by_cases h2:idxOf p l<0
       ·exact ih (by omega) x hx
       ·rw [if_neg h2] at h;omega
   rw [key h1 x hx] at hp
   cases hp
 clear hl hf;generalize idxOf p l=K at *;generalize l.any p=q at *
 go_enter func22,ntmps22
 go_wp2_with fail;refine uq_ HI.out hB ?_;clear hB;intro wk hB;go_wp2_with fail;go_ret;exact ⟨by first | rfl | exact ret_b hi,hB⟩
end

section
open Go.RowKit
theorem q00r {L:List (List PT)} {PL:List (PC × List Fea)} {X:List Fx} {l:List Am} (hu:uniE L PL X=0) (hg:givE l=0):frE L PL X l=0∧frV L PL X l=frmG (usedU X) (pageV L l PL X) 8∧RgL (frV L PL X l)∧(frV L PL X l).length≤8:=by
 have hE:frE L PL X l=0:=by unfold frE;rw [if_neg (fun h=>h hu),hg]
 have hV:frV L PL X l=frmG (usedU X) (pageV L l PL X) 8:=by unfold frV;rw [if_neg (fun h=>h hE)]
 refine ⟨hE,hV,?_,?_⟩
 ·rw [hV];exact (q9l _ _ (fun u=>qg7 L l PL u X) 8 (Nat.le_refl _)).1
 ·rw [hV];exact q9k _ _ 8
theorem chg_ok {L:List (List PT)} {PL:List (PC × List Fea)} {X:List Fx} {l m:List Am} (hu:uniE L PL X=0) (hl:givE l=0) (hm:givE m=0) :
  chgE (frV L PL X l) (frV L PL X m)=0∧(chgV (frV L PL X l) (frV L PL X m)).length≤4096:=by
 obtain ⟨-,v1,r1,k1⟩:=q00r hu hl;obtain ⟨-,v2,r2,k2⟩:=q00r hu hm;have hq:eqU (frV L PL X l) (frV L PL X m)=true:=by
  rw [v1,v2];exact q6v (q9n _ _ _ 8)
 generalize frV L PL X l=a at *;generalize frV L PL X m=b at *;have e1:chgE a b=0:=by unfold chgE;rw [if_neg (fun h=>h (qmd r1 k1)),if_neg (fun h=>h (qmd r2 k2)),hq,if_neg (by decide)]
 have f1:chgV a b=difA a b a.length:=by unfold chgV;rw [if_neg (fun h=>h e1)]
 refine ⟨e1,?_⟩;rw [f1]
 have:=q59 a b a.length
 omega
end

end Go.Proofs.YtbfikenbgfnfiaaGreatDoor
