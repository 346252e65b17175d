/- Lemmas. -/
import Derived.Test.YtabhjdmmfdfpeaaGreatDoorKUniC
namespace Go.Proofs.YtabhjdmmfdfpeaaGreatDoor
set_option maxHeartbeats 32000000
open _root_.Go.Proofs.Tryz
open Go.RowKit
variable {s:ByteArray} {f:Fea} {u:Int} {L:List (List PT)} {B M S i:Nat} {t:TypeId} {w w':World}
def toldT (l:List Am) (ch at_ ho:Int):ByteArray:=match l.find? fun a=>decide (a.ch=ch) && decide (a.at_=at_) with
 | some a=>a.lev
 | none=>sR (ho:Rat)
abbrev pK:Int × Int→Value:=fun p=>.agg #[.int .i64 p.1,.int .i64 p.2]
def lvL (l:List Am):List ((Int × Int) × Value):=l.map fun a=>((a.ch,a.at_),.string a.lev)
theorem qdi (l:List Am) (a:Am):lvL l ++ [((a.ch,a.at_),.string a.lev)]=lvL (l ++ [a]):=by unfold lvL;simp
theorem qda (l:List Am) (ch at_:Int):lookL (lvL l) (ch,at_)=(l.find? fun a=>decide (a.ch=ch) && decide (a.at_=at_)).map fun a=>.string a.lev:=by
 unfold lookL
 suffices h:∀ (l:List Am) (i:Nat),(findL (lvL l) (ch,at_) i).map (·.2)=(l.find? fun a=>decide (a.ch=ch) && decide (a.at_=at_)).map fun a=>Value.string a.lev from h l 0
 intro l
 induction l with
 | nil=>intro i;rfl
 | cons a l ih =>
  intro i;have h:=ih (i+1);unfold lvL at h ⊢;simp only [List.map_cons,findL,List.find?_cons]
  by_cases h1:a.ch=ch
  ·by_cases h2:a.at_=at_
   ·subst h1 h2;simp
   ·have hk:¬ (ch,at_)=(a.ch,a.at_):=fun e=>by injection e with _ e;exact h2 e.symm
    simp only [hk,if_false,decide_eq_false h2,Bool.and_false];exact h
  ·have hk:¬ (ch,at_)=(a.ch,a.at_):=fun e=>by injection e with e _;exact h1 e.symm
   simp only [hk,if_false,decide_eq_false h1,Bool.false_and];exact h
theorem q17 {x y z:Am} (h1:q15 x y=true) (h2:q15 y z=true):q15 x z=true:=by
 unfold q15 at *;simp only [Bool.or_eq_true,Bool.and_eq_true,decide_eq_true_eq] at *;omega
theorem am_ok {l:List Am} (h:amE l i=0):errLv (l.getD i am0).lev.data.toList=0∧(0<i→q15 (l.getD (i-1) am0) (l.getD i am0)=true)∧paramE (l.getD i am0).ch (l.getD i am0).at_=0:=by
 unfold amE at h
 by_cases h1:paramE (l.getD i am0).ch (l.getD i am0).at_≠0
 ·rw [if_pos h1] at h;exact absurd h h1
 rw [if_neg h1] at h
 by_cases h2:errLv (l.getD i am0).lev.data.toList≠0
 ·rw [if_pos h2] at h;exact absurd h h2
 rw [if_neg h2] at h
 by_cases h3:0<i∧q15 (l.getD (i-1) am0) (l.getD i am0)=false
 ·rw [if_pos h3] at h;cases h
 refine ⟨Classical.not_not.1 h2,fun h4=>?_,Classical.not_not.1 h1⟩
 cases hb:q15 (l.getD (i-1) am0) (l.getD i am0) with
 | true=>rfl
 | false=>exact absurd ⟨h4,hb⟩ h3
theorem qa5 {l:List Am} (h:givE l=0):l.length≤4096∧∀ i,i<l.length→amE l i=0:=by
 unfold givE at h
 by_cases h1:4096<l.length
 ·rw [if_pos h1] at h;cases h
 ·rw [if_neg h1] at h
  exact ⟨o_,q89 h⟩
theorem qa6 {l:List Am} (h:givE l=0):∀ {i j:Nat},j<i→i<l.length→q15 (l.getD j am0) (l.getD i am0)=true
 | 0,_,hj,_=>absurd hj (Nat.not_lt_zero _)
 | i+1,j,hj,hi=>by
  have h1:=(am_ok ((qa5 h).2 (i+1) hi)).2.1 (Nat.succ_pos _);rw [Nat.add_sub_cancel] at h1
  rcases Nat.lt_or_eq_of_le (Nat.le_of_lt_succ hj) with h2 | h2
  ·exact q17 (qa6 h h2 o_) h1
  ·subst h2;exact h1
theorem q16 {x y:Am} (h:q15 x y=true):¬ (x.ch=y.ch∧x.at_=y.at_):=by
 unfold q15 at h;simp only [Bool.or_eq_true,Bool.and_eq_true,decide_eq_true_eq] at h;omega
theorem qa8 {l:List Am} (h:givE l=0) (hi:i<l.length):lookL (lvL (l.take i)) (l[i].ch,l[i].at_)=none:=by
 rw [qda];have hn:(l.take i).find? (fun a=>decide (a.ch=l[i].ch) && decide (a.at_=l[i].at_))=none:=by
  rw [List.find?_eq_none];intro a ha;obtain ⟨j,hj,rfl⟩:=List.getElem_of_mem ha;rw [List.length_take] at hj;rw [List.getElem_take]
  have:=q16 (qa6 h (j:=j) (i:=i) o_ hi)
  rw [qa1 o_,qa1 hi] at this
  simpa using this
 rw [hn]
 rfl
theorem qcv {v:Int} (h:isLev v):(sR (v:Rat)).size≤12∧chkR (sR (v:Rat)).data.toList=0:=by
 unfold isLev at h;have hz:SzR 5 (v:Rat):=SzR.int (by show v.natAbs<100000;omega) d_
 exact ⟨hz.len,by rw [qog];exact q33 (hz.fit d_)⟩
theorem q72 {s:BT} (h:errLv s=0):chkR s=0:=by
 unfold errLv at h
 by_cases h1:chkR s=0
 ·exact h1
 ·rw [if_pos h1] at h;exact h
theorem qsl {l:List Am} (h:givE l=0) (hs:∀ a ∈ l,a.lev.size≤120) {ch at_ ho:Int} (hho:isLev ho):chkR (toldT l ch at_ ho).data.toList=0∧(toldT l ch at_ ho).size≤120:=by
 unfold toldT
 cases hf:l.find? fun a=>decide (a.ch=ch) && decide (a.at_=at_) with
 | none=>exact ⟨(qcv hho).2,Nat.le_trans (qcv hho).1 d_⟩
 | some a =>
  have ha:=List.mem_of_find?_eq_some hf;refine ⟨?_,hs a ha⟩;obtain ⟨i,hi,rfl⟩:=List.getElem_of_mem ha
  have:=(am_ok ((qa5 h).2 i hi)).1
  rw [qa1 hi] at this;exact q72 this
def FeGood (L:List (List PT)) (ft:Int) (f:Fea):Prop:=aloneE f L=0∧(0≤f.co∧f.co<ft)∧(f.bits=16→0≤f.fi∧f.fi<ft)
theorem qis {ft wa:Int} {l:List Fea} (h:profE s ft wa l L=0):errA L=0∧l.length≤16∧∀ f ∈ l,FeGood L ft f:=by
 unfold profE at h
 by_cases h1:errA L≠0
 ·rw [if_pos h1] at h;exact absurd h h1
 rw [if_neg h1] at h;have hA:=Classical.not_not.1 h1
 by_cases h2:nmB s=false
 ·rw [if_pos h2] at h;cases h
 rw [if_neg h2] at h
 by_cases h3:ft<1∨512<ft∨wa<0∨1048576<wa
 ·rw [if_pos h3] at h;cases h
 rw [if_neg h3] at h
 by_cases h4:16<l.length
 ·rw [if_pos h4] at h;cases h
 rw [if_neg h4] at h;refine ⟨hA,o_,fun f hf=>?_⟩
 obtain ⟨i,hi,rfl⟩:=List.getElem_of_mem hf;have hE:=q89 h i hi;unfold feaE at hE;rw [qa1 hi] at hE
 by_cases e1:l[i].at_<0∨15≤l[i].at_
 ·rw [if_pos e1] at hE;cases hE
 rw [if_neg e1] at hE
 by_cases e2:(l.take i).any (fun x=>decide (x.at_=l[i].at_))=true
 ·rw [if_pos e2] at hE;cases hE
 rw [if_neg e2] at hE
 by_cases e3:bitsE l[i]≠0
 ·rw [if_pos e3] at hE;cases hE
 rw [if_neg e3] at hE
 by_cases e4:l[i].co<0∨ft≤l[i].co∨l[i].bits=16∧(l[i].fi<0∨ft≤l[i].fi)
 ·rw [if_pos e4] at hE;cases hE
 rw [if_neg e4] at hE
 by_cases e5:l[i].bits=8∧l[i].fi≠0
 ·rw [if_pos e5] at hE;cases hE
 rw [if_neg e5] at hE
 by_cases e6:usedB (l.take i) l[i].co=true∨l[i].bits=16∧(usedB (l.take i) l[i].fi=true∨l[i].fi=l[i].co)
 ·rw [if_pos e6] at hE;cases hE
 rw [if_neg e6] at hE;refine ⟨?_,o_,fun h16=>o_⟩
 unfold aloneE;rw [if_neg h1,if_neg e3];exact hE
theorem q0f (h:aloneE f L=0):isLev f.ho:=(q0g h).2.2.2.2.1
theorem q7i (h:aloneE f L=0) (hc:chkR s.data.toList=0):rawE f L s=0:=by
 unfold rawE;rw [h,if_neg (fun h=>h rfl),hc]
def featV (PL:List (PC × List Fea)) (s:ByteArray):List Fea:=match PL.find? fun x=>decide (x.1.s=s) with
 | some x=>x.2
 | none=>[]
theorem q83 (PL:List (PC × List Fea)) (s:ByteArray):pcF (PL.map Prod.fst) s=(PL.find? fun x=>decide (x.1.s=s)).map Prod.fst:=by
 unfold pcF
 induction PL with
 | nil=>rfl
 | cons x PL ih =>
  rw [List.map_cons,List.find?_cons,List.find?_cons]
  cases decide (x.1.s=s) with
  | true=>rfl
  | false=>exact ih
theorem qu8 {PL:List (PC × List Fea)} {X:List Fx} (h:uniE L PL X=0):errA L=0∧X.length≤64∧(∀ i (hi:i<X.length),FxOK (PL.map Prod.fst) X[i])∧∀ x ∈ PL,∀ f ∈ x.2,FeGood L x.1.ft f:=by
 unfold uniE at h
 by_cases h1:errA L≠0
 ·rw [if_pos h1] at h;exact absurd h h1
 rw [if_neg h1] at h
 by_cases h2:32<PL.length
 ·rw [if_pos h2] at h;cases h
 rw [if_neg h2] at h
 by_cases h3:firstE (prE L PL) PL.length≠0
 ·rw [if_pos h3] at h;exact absurd h h3
 rw [if_neg h3] at h;unfold patE at h
 by_cases h4:32<(PL.map Prod.fst).length∨64<X.length
 ·rw [if_pos h4] at h;cases h
 rw [if_neg h4] at h;refine ⟨Classical.not_not.1 h1,o_,fun i hi=>?_,fun x hx f hf=>?_⟩
 ·have:=(fx_ok (q89 h i hi)).1
  rw [qa1 hi] at this;exact this
 ·obtain ⟨i,hi,rfl⟩:=List.getElem_of_mem hx
  have hp:=q89 (Classical.not_not.1 h3) i hi;unfold prE at hp;rw [qa1 hi] at hp
  by_cases h5:profE PL[i].1.s PL[i].1.ft PL[i].1.wa PL[i].2 L≠0
  ·rw [if_pos h5] at hp;exact absurd hp h5
  ·exact (qis (Classical.not_not.1 h5)).2.2 f hf
def rawF (L:List (List PT)) (l:List Am) (ch:Int) (f:Fea):Int:=rawV f L (toldT l ch f.at_ f.ho)
def setX (L:List (List PT)) (l:List Am) (x:Fx) (pg:List UInt8) (F:List Fea):List UInt8:=F.foldl (fun pg f=>setF pg x.ad f (rawF L l x.ch f)) pg
def pageV (L:List (List PT)) (l:List Am) (PL:List (PC × List Fea)) (X:List Fx) (u:Int):List UInt8:=X.foldl (fun pg x=>if x.un=u then setX L l x pg (featV PL x.pr) else pg) q00p
def usedU (X:List Fx) (u:Int):Bool:=X.any fun x=>decide (x.un=u)
theorem qph (L:List (List PT)) (l:List Am) (x:Fx) (F:List Fea):∀ pg,(setX L l x pg F).length=pg.length:=by
 unfold setX
 induction F with
 | nil=>intro pg;rfl
 | cons f F ih=>intro pg;rw [List.foldl_cons,ih,qpd]
theorem qpi (L:List (List PT)) (l:List Am) (x:Fx) (pg:List UInt8) (F:List Fea) (f:Fea):setX L l x pg (F ++ [f])=setF (setX L l x pg F) x.ad f (rawF L l x.ch f):=by unfold setX;rw [List.foldl_append];rfl
theorem qg9 (L:List (List PT)) (l:List Am) (PL:List (PC × List Fea)) (X:List Fx) (x:Fx) (u:Int):pageV L l PL (X ++ [x]) u=if x.un=u then setX L l x (pageV L l PL X u) (featV PL x.pr) else pageV L l PL X u:=by unfold pageV;rw [List.foldl_append];rfl
theorem qg7 (L:List (List PT)) (l:List Am) (PL:List (PC × List Fea)) (u:Int):∀ X,(pageV L l PL X u).length=512:=by
 intro X;unfold pageV
 suffices h:∀ pg,pg.length=512→(X.foldl (fun pg x=>if x.un=u then setX L l x pg (featV PL x.pr) else pg) pg).length=512 from h _ List.length_replicate
 induction X with
 | nil=>intro pg h;exact h
 | cons x X ih =>
  intro pg h;rw [List.foldl_cons]
  apply ih
  by_cases hu:x.un=u
  ·rw [if_pos hu,qph];exact h
  ·rw [if_neg hu];exact h
theorem qyn (X:List Fx) (x:Fx) (u:Int):usedU (X ++ [x]) u=(usedU X u || decide (x.un=u)):=by unfold usedU;simp
theorem qg8 (L:List (List PT)) (l:List Am) (PL:List (PC × List Fea)) (u:Int):∀ X,usedU X u=false→pageV L l PL X u=q00p:=by
 intro X;unfold pageV
 suffices h:∀ pg,usedU X u=false→X.foldl (fun pg x=>if x.un=u then setX L l x pg (featV PL x.pr) else pg) pg=pg from h _
 induction X with
 | nil=>intro pg _;rfl
 | cons x X ih =>
  intro pg h;unfold usedU at h;rw [List.any_cons,Bool.or_eq_false_iff] at h;rw [List.foldl_cons,if_neg (of_decide_eq_false h.1)];exact ih pg h.2
theorem q6x (a b:Int × Int) (w:World):(Op.equal 64 (pK a) (pK b)).run prog w=.ok (decide (a=b)) w:=by
 obtain ⟨a1,a2⟩:=a;obtain ⟨b1,b2⟩:=b;have hf : (prog.fieldsOf 64).toList.map (fun f => (f.name, f.type, f.offset)) = [("Channel", 3, 0), ("Attr", 3, 1)] := k_
 have hs:prog.stoodInHeld 64=false:=k_
 have p0:∀ (x y:Int) w,(part 3 #[.int .i64 x,.int .i64 y] 0).run prog w=.ok (.int .i64 x) w:=fun x y w=>k_
 have p1:∀ (x y:Int) w,(part 3 #[.int .i64 x,.int .i64 y] 1).run prog w=.ok (.int .i64 y) w:=fun x y w=>k_
 have hi:=underlying3;show (Op.equalIn (9999+1) 64 (.agg #[.int .i64 a1,.int .i64 a2]) (.agg #[.int .i64 b1,.int .i64 b2])).run prog w=_
 rw [run_equalIn_struct w 9999 _ _ _ k_ hs]
 have e:∀ (d:Nat) (x y:Int) w,(Op.equalIn (d+1) 3 (.int .i64 x) (.int .i64 y)).run prog w=.ok (x == y) w:=fun d x y w=>by
  simp [Op.equalIn,run_underlying hi]
 have e9:∀ (x y:Int) w,(Op.equalIn 9999 3 (.int .i64 x) (.int .i64 y)).run prog w=.ok (x == y) w:=fun x y w=>e 9998 x y w
 generalize (prog.fieldsOf 64).toList=fs at *;generalize hd:9999=d at *
 match fs,hf with
 | [],hf=>simp at hf
 | [_],hf=>simp at hf
 | _ :: _ :: _ :: _,hf=>simp at hf
 | [f,g],hf =>
  simp only [List.map_cons,List.map_nil,List.cons.injEq,Prod.mk.injEq,and_true] at hf;obtain ⟨⟨f1,f2,f3⟩,g1,g2,g3⟩:=hf;clear e hd hi hs
  by_cases h1:a1=b1
  ·subst h1
   by_cases h2:a2=b2
   ·subst h2
    simp [Op.eqFields,f1,f2,f3,g1,g2,g3,Sem.run_bind,p0,p1,e9,Result.andThen]
   ·simp [Op.eqFields,f1,f2,f3,g1,g2,g3,Sem.run_bind,p0,p1,e9,Result.andThen,h2]
  ·simp [Op.eqFields,f1,f2,f3,Sem.run_bind,p0,e9,Result.andThen,h1]
theorem kParam:KeyTy prog 64 pK:=KeyTy.of_eq (by rw [underlying64]) (fun a e w=>k_) q6x
theorem PgI.below {U:List (Int × Nat)} {c:Int→List UInt8} (h:PgI S w M U c) (hb:Below w.heap.size w w'):PgI S w' M U c :=
 ⟨h.1.below hb,h.2.1,fun u B hu=>⟨(h.2.2 u B hu).1,(h.2.2 u B hu).2.1,(h.2.2 u B hu).2.2.1.below hb (h.2.2 u B hu).2.2.1.lt,(h.2.2 u B hu).2.2.2⟩⟩
theorem PgI.congr {U:List (Int × Nat)} {c d:Int→List UInt8} (h:PgI S w M U c) (hc:∀ u,c u=d u):PgI S w M U d:=by
 rw [← show c=d from funext hc];exact h
def PgJ (U:List (Int × Nat)):Prop:=∀ u v B,pgB U u=some B→pgB U v=some B→u=v
theorem qn4 {κ:Type} {enc:κ→Value} {c:Array Value} {L:List (κ × Value)} (h:RowAt w B c t) (hm:MapAt enc w M L):B≠M:=by
 rintro rfl;obtain ⟨es,cl,hb,-⟩:=hm;have h':w.heap[B]? = some (.cells c t (0,0)):=h;rw [hb] at h'
 injection h' with h'
 cases h'
theorem PgI.write {U:List (Int × Nat)} {c:Int→List UInt8} (h:PgI S w M U c) (hj:PgJ U) (hu:pgB U u=some B) (hg:w.grownBy w' (some B)) {pg:List UInt8} (hR:RowAt w' B (pgRow pg) 5) (hl:pg.length=512):PgI S w' M U (fun v=>if v=u then pg else c v):=by
 refine ⟨h.1.grown hg (by intro e;injection e with e;exact (h.2.2 u B hu).2.1 e.symm),h.2.1,fun v B' hv=>⟨(h.2.2 v B' hv).1,(h.2.2 v B' hv).2.1,?_⟩⟩
 by_cases e:v=u
 ·subst e
  rw [hu] at hv
  injection hv with hv
  subst hv;dsimp only;rw [if_pos rfl];exact ⟨hR,hl⟩
 ·dsimp only
  rw [if_neg e];have hne:B'≠B:=fun e2=>e (hj v u B (by rw [hv,e2]) hu)
  exact ⟨(hg.block B' (h.2.2 v B' hv).2.2.1.lt (by intro e2;injection e2 with e2;exact hne e2)).trans (h.2.2 v B' hv).2.2.1,(h.2.2 v B' hv).2.2.2⟩
theorem qhi (U:List (Int × Nat)) (u:Int) (B:Nat) (v:Int):pgB (U ++ [(u,B)]) v=(pgB U v).or (if u=v then some B else none):=by
 unfold pgB;rw [List.find?_append]
 cases U.find? fun p=>decide (p.1=v) with
 | some p=>rfl
 | none =>
  by_cases h:u=v
  ·simp [h]
  ·simp [h]
theorem PgI.add {U:List (Int × Nat)} {c:Int→List UInt8} (h:PgI S w M U c) (hj:PgJ U) (_:pgB U u=none) (hS:S≤w.heap.size) (hR:RowAt w' w.heap.size (pgRow q00p) 5) (hM:MapAt iK w' M (pgL (U ++ [(u,w.heap.size)]))) (hg:w.grownBy w' (some M)) (hc:c u=q00p) :
  PgI S w' M (U ++ [(u,w.heap.size)]) c∧PgJ (U ++ [(u,w.heap.size)]):=by
 have hMl:=h.1.lt;refine ⟨⟨hM,h.2.1,fun v B hv=>?_⟩,fun a b B ha hb=>?_⟩
 ·rw [qhi] at hv
  cases hv2:pgB U v with
  | some B' =>
   rw [hv2] at hv
   injection hv with hv
   subst hv;obtain ⟨h1,h2,h3,h4⟩:=h.2.2 v B' hv2;exact ⟨h1,h2,(hg.block B' h3.lt (by intro e;injection e with e;exact h2 e)).trans h3,h4⟩
  | none =>
   rw [hv2,Option.none_or] at hv
   by_cases e:u=v
   ·rw [if_pos e] at hv
    injection hv with hv
    subst hv;subst e;exact ⟨hS,o_,by rw [hc];exact hR,by rw [hc];exact List.length_replicate⟩
   ·rw [if_neg e] at hv;cases hv
 ·rw [qhi] at ha hb
  have old:∀ x,pgB U x=some w.heap.size→False:=fun x hx=>absurd (h.2.2 x _ hx).2.2.1.lt (Nat.lt_irrefl _)
  cases ha2:pgB U a with
  | some B' =>
   rw [ha2] at ha
   injection ha with ha
   subst ha
   cases hb2:pgB U b with
   | some B2 =>
    rw [hb2] at hb
    injection hb with hb
    subst hb;exact hj a b _ ha2 hb2
   | none =>
    rw [hb2,Option.none_or] at hb
    by_cases e:u=b
    ·rw [if_pos e] at hb
     injection hb with hb
     subst hb;exact (old a ha2).elim
    ·rw [if_neg e] at hb;cases hb
  | none =>
   rw [ha2,Option.none_or] at ha
   by_cases e:u=a
   ·rw [if_pos e] at ha
    injection ha with ha
    subst ha
    cases hb2:pgB U b with
    | some B2 =>
     rw [hb2] at hb
     injection hb with hb
     subst hb;exact (old b hb2).elim
    | none =>
     rw [hb2,Option.none_or] at hb
     by_cases e2:u=b
     ·rw [← e,e2]
     ·rw [if_neg e2] at hb;cases hb
   ·rw [if_neg e] at ha;cases ha
theorem qye (S M:Nat) (U:List (Int × Nat)) (u:Int) (c:Int→List UInt8) (w:World) (h:PgI S w M U c) (hj:PgJ U) (hS:S≤w.heap.size) (hc:pgB U u=none→c u=q00p) :
  Calls prog 141 #[.map (some M),.int .i64 u] w fun e w'=>∃ B U',e=.returned (.slice (some ⟨B,0,none⟩) 512 512)∧PgI S w' M U' c∧PgJ U'∧pgB U' u=some B∧(∀ v,(pgB U' v).isSome=((pgB U v).isSome || decide (u=v)))∧w.grownBy w' (some M):=by
 cases hu:pgB U u with
 | some B =>
  refine (qyg M B U u w h.1 hu).mono ?_;rintro e w' ⟨rfl,hb⟩;refine ⟨B,U,rfl,h.below hb,hj,hu,fun v=>?_,qae hb⟩
  by_cases e:u=v
  ·subst e;rw [hu];rfl
  ·rw [decide_eq_false e,Bool.or_false]
 | none =>
  refine (qyf M U u w h.1 hu).mono ?_;rintro e w' ⟨rfl,hR,hM,hg⟩;obtain ⟨h1,h2⟩:=h.add hj hu hS hR hM hg (hc hu);refine ⟨w.heap.size,_,rfl,h1,h2,?_,fun v=>?_,hg⟩
  ·rw [qhi,hu,if_pos rfl];rfl
  ·rw [qhi]
   by_cases e:u=v
   ·subst e;rw [hu,if_pos rfl];simp
   ·rw [if_neg e,decide_eq_false e,Bool.or_false,Option.or_none]
theorem qn5 {b o:Nat} {pg:List UInt8} {A:Option Addr} {n c:Nat} (h:RowAt w B (pgRow pg) t) (hc:w.cell? ⟨b,o,none⟩=some (.slice A n c)):b≠B:=by
 rintro rfl;rw [cell_of_row _ _ o _ t (0,0) h] at hc;unfold pgRow at hc;simp at hc
def frE (L:List (List PT)) (PL:List (PC × List Fea)) (X:List Fx) (l:List Am):Int:=if uniE L PL X≠0 then uniE L PL X else givE l
def frV (L:List (List PT)) (PL:List (PC × List Fea)) (X:List Fx) (l:List Am):List Fm:=if frE L PL X l≠0 then [] else frmG (usedU X) (pageV L l PL X) 8
set_option maxRecDepth 100000 in
theorem qtn (A0:Option Addr) (n0 d0:Nat) (H:List Hd) (L:List (List PT)) (A1:Option Addr) (n1 d1:Nat) (PL:List (PC × List Fea)) (A2:Option Addr) (n2 d2:Nat) (X:List Fx) (A3:Option Addr) (n3 d3:Nat) (l:List Am) (w:World)
  (hl:InN w A0 n0 H L) (hm:∀ h ∈ H,h.n≤9223372036854775807) (hn0:n0≤9223372036854775807) (hp:InPs w A1 n1 PL) (hn1:n1≤9223372036854775806) (hx:shX.In w A2 n2 X) (hn2:n2≤d2) (hd2:d2≤9223372036854775807) (hcb:∀ x ∈ X,x.cb.size≤9223372036854775807)
  (ha:shAm.In w A3 n3 l) (hn3:n3≤9223372036854775806) (hs:∀ a ∈ l,a.lev.size≤120) (ht:Tab w) (hr:Rng w) :
  Calls prog 100 #[.agg #[.slice A0 n0 d0,.slice A1 n1 d1,.slice A2 n2 d2],.slice A3 n3 d3] w fun e w'=>∃ r,e=.returned (.tuple #[r,.int .i64 (frE L PL X l)])∧shFm.Out 270 (frV L PL X l) w r w':=by
 have HCk:=hj_ (fun w h1 h2 h3=>qtm A0 n0 d0 H L A1 n1 d1 PL A2 n2 d2 X w h1 hm h2 hn1 h3 hn2 hd2 hcb)
 have HGv:=hj_ (fun w h1 h2=>qu1 A3 n3 d3 l w h1 hn3 (fun a h=>Nat.le_trans (hs a h) d_) h2)
 have hfE:frE L PL X l=if uniE L PL X≠0 then uniE L PL X else givE l:=rfl
 have hfV:frV L PL X l=if frE L PL X l≠0 then [] else frmG (usedU X) (pageV L l PL X) 8:=rfl
 rw [hfV];have hug:=fun (h:uniE L PL X=0)=>qu8 h
 have hgv:=fun (h:givE l=0)=>h
 have HU:=hj_ hug;have HN3:=hj_ hn3;have HG:=hj_ (fun (h:givE l=0) (i:Nat) (hi:i<l.length)=>qa8 h hi)
 have HTo:=hj_ (fun (h:givE l=0) (ch at_ ho:Int) (hho:isLev ho)=>qsl h hs (ch:=ch) (at_:=at_) hho)
 have HPf:=hj_ (fun (x:Fx) (p:PC) w h1 h2=>qyj A0 n0 d0 A1 n1 d1 A2 n2 d2 (PL.map Prod.fst) x p w h1 hn1 h2)
 have HWr:=hj_ (fun (f:FC) (wl:List Slt) (s:ByteArray) (ad:Int) (Q X B:Nat) (pg:List UInt8) w h1 h2 h3 h4 h5=>qyv f wl A0 n0 d0 H L s ad Q X B pg w h1 h2 hm hn0 h3 h4 h5)
 obtain ⟨W,HW,HB0,HK⟩:=bx3 w (.slice A0 n0 d0) (.slice A1 n1 d1) (.slice A2 n2 d2) 26;have hB:=Below.refl W.heap.size W;obtain ⟨c0,c1,c2⟩:=HK.out W hB;have HL:=hj_ (hl.below HB0.out);have HP:=hj_ (hp.below HB0.out);have HX:=hj_ (hx.below HB0.out);have HA:=hj_ (ha.below HB0.out);have HT:=hj_ (ht.below HB0.out);have HR:=hj_ (hr.below HB0.out);have hmm1:∀ w,(Instr.makeMap 201 none).run prog w=.ok (.map (some w.heap.size)) (w.alloc (.map #[] 0)):=fun w=>run_makeMap _ w
 have hmm2:∀ w,(Instr.makeMap 203 none).run prog w=.ok (.map (some w.heap.size)) (w.alloc (.map #[] 0)):=fun w=>run_makeMap _ w
 clear hl hm hn0 hp hn1 hx hn2 hd2 hcb ha hn3 hs ht hr hug hgv hfV
 by_cases hu:uniE L PL X=0
 case neg =>
  rw [if_pos hu] at hfE;rw [hfE,if_pos hu];generalize uniE L PL X=E at *;have g1:(E == 0)=false:=by simpa using hu
  have g2:(E != 0)=true:=by simpa using hu
  go_enter func100,ntmps100
  go_wp2_with fail;rw [← HW.out];refine uq_ (HCk.out _ (HL.out.below hB) (HP.out.below hB) (HX.out.below hB)) hB fun wk hB=>?_;go_wp2_with fail;go_ret2;exact ⟨_,rfl,Sh.Out.nil (ht_ HB0.out hB)⟩
 rw [if_neg (fun h=>h hu)] at hfE
 rw [hu] at HCk
 by_cases hg:givE l=0
 case neg =>
  rw [hfE,if_pos hg];generalize givE l=E at *;have g1:(E == 0)=false:=by simpa using hg
  have g2:(E != 0)=true:=by simpa using hg
  go_enter func100,ntmps100
  go_wp2_with fail;rw [← HW.out];refine uq_ (HCk.out _ (HL.out.below hB) (HP.out.below hB) (HX.out.below hB)) hB fun wk hB=>?_;obtain ⟨c0,c1,c2⟩:=HK.out _ hB;go_wp2_with fail;refine uq_ (HGv.out _ (HA.out.below hB) (HT.out.below hB)) hB fun wk hB=>?_;go_wp2_with fail;go_ret2;exact ⟨_,rfl,Sh.Out.nil (ht_ HB0.out hB)⟩
 rw [hfE,hg,if_neg (fun h=>h rfl)]
 rw [hg] at HGv;obtain ⟨hA0,hX64,hFx,hFe⟩:=HU.out hu;have HNew:=hj_ (HG.out hg);have HTold:=hj_ (HTo.out hg);have HFx:=hj_ hFx;have HFe:=hj_ hFe;obtain rfl:n2=X.length:=HX.out.1;obtain rfl:n3=l.length:=HA.out.1;clear HU HG HTo hFx hFe hfE hA0
 go_enter func100,ntmps100
 go_wp2_with fail;rw [← HW.out];refine uq_ (HCk.out _ (HL.out.below hB) (HP.out.below hB) (HX.out.below hB)) hB fun wk hB=>?_;obtain ⟨c0,c1,c2⟩:=HK.out _ hB;go_wp2_with fail;refine uq_ (HGv.out _ (HA.out.below hB) (HT.out.below hB)) hB fun V hB=>?_;obtain ⟨W5,hW5⟩:=ex_ (V.alloc (.map #[] 0));have hb5:Below V.heap.size V W5:=by rw [hW5];exact (br_).alloc lr_ _
 have HB5:=hj_ (ht_ hB hb5);have HM5:=hj_ (show MapAt pK W5 V.heap.size (lvL (l.take 0)) by rw [hW5];exact MapAt.made pK V)
 have HW5:=hj_ hW5;have HV:=hj_ (show W.heap.size≤V.heap.size from hB.size)
 clear hW5 hb5 HCk HGv;go_wp2_with fail;rw [← HW5.out];clear hmm1 hB c0 c1 c2
 go_loopw [34] (fun iv wr=>∃ k:Nat,k≤l.length∧iv=.int .i64 k∧Below W.heap.size W wr∧MapAt pK wr V.heap.size (lvL (l.take k))) (fun iv _=>l.length-(intOf iv).toNat)
 case atStart=>exact ⟨0,Nat.zero_le _,rfl,HB5.out,HM5.out⟩
 case round =>
  obtain ⟨k,hk,rfl,hB,hM⟩:=hrel;have HM:=hj_ hM;clear hM
  by_cases hlt:k<l.length
  case pos =>
   obtain ⟨b,o,rfl,hbl,hcell⟩:=am_at HA.out o_
   obtain ⟨k0,k1,k2⟩:=hcell k hlt;have p0:=(hB.cell (p:=⟨b,o+k*3,none⟩) hbl).trans k0;have p1:=(hB.cell (p:=⟨b,o+k*3+1,none⟩) hbl).trans k1;have p2:=(hB.cell (p:=⟨b,o+k*3+2,none⟩) hbl).trans k2;have hbw:b<wr.heap.size:=Nat.lt_of_lt_of_le hbl hB.size;have i0:(0:Int)≤(k:Int):=o_
   have i1:(k:Int)<(l.length:Int):=o_
   have w0:IntKind.i64.wrap ((k:Int)+1)=(k:Int)+1:=IntWalk.i64_in _ (oh_ HN3.out)
   have hnew:=HNew.out k hlt;have hpush:=qdi (l.take k) l[k];rw [← List.take_succ_eq_append_getElem hlt] at hpush;clear k0 k1 k2 hcell;generalize l[k]=a at *;obtain ⟨ch,at_,lev⟩:=a
   dsimp only at p0 p1 p2 hnew hpush;have HN:=hj_ hnew;have HPu:=hj_ hpush;have HMb:=hj_ (fun (w':World) (h:Below wr.heap.size wr w')=>HM.out.below h)
   have HBb:=hj_ (fun (w':World) (h:Below wr.heap.size wr w')=>ht_ hB h)
   clear hnew hpush;go_wp2_with (at_mapUpdate;refine q004 _ rfl _ _ _ _ rfl _ _ underlying201 pK kParam V.heap.size (lvL (l.take k)) (ch,at_) (.string lev) rfl rfl rfl (HMb.out _ bz_) HN.out ?_;intro w5 hm5 hg5;rw [HPu.out] at hm5;have HM6:=hj_ hm5;have HB6:=hj_ ((HBb.out _ bz_).grown hg5 (HBb.out _ bz_).size (fun q e=>by cases e;exact HV.out));clear hm5 hg5)
   go_roundw
   case rel=>exact ⟨k+1,hlt,by go_num,HB6.out,HM6.out⟩
   case measure=>simp [intOf];omega
  case neg =>
   obtain rfl:k=l.length:=o_
   rename World=>V2
   rw [List.take_length] at HM;obtain ⟨W6,hW6⟩:=ex_ (V2.alloc (.map #[] 0));have hb6:Below V2.heap.size V2 W6:=by rw [hW6];exact (br_).alloc lr_ _
   have HB6:=hj_ (ht_ hB hb6);have HM6:=hj_ (HM.out.below hb6);have HI6:=hj_ (show PgI W.heap.size W6 V2.heap.size [] (pageV L l PL (X.take 0)) from ⟨by rw [hW6];exact MapAt.made iK V2,hB.size,fun u B h=>by cases h⟩)
   have HW6:=hj_ hW6;have HV2:=hj_ (show W.heap.size≤V2.heap.size from hB.size)
   have HVV:=hj_ HM.out.lt;obtain ⟨c0,c1,c2⟩:=HK.out _ hB;have n1:w.heap.size<V2.heap.size:=Nat.lt_of_lt_of_le (by rw [HW.out];simp) hB.size
   have n2:¬ w.heap.size=V2.heap.size:=o_
   clear hW6 hb6 HM5 HB5 HNew;go_wp2_with fail;rw [← HW6.out];clear hmm2 hB c0 c1 c2 n1 n2
   go_loopw [48] (fun iv wr=>∃ (k:Nat) (U:List (Int × Nat)),k≤X.length∧iv=.int .i64 k∧Below W.heap.size W wr∧MapAt pK wr V.heap.size (lvL l)∧PgI W.heap.size wr V2.heap.size U (pageV L l PL (X.take k))∧PgJ U∧∀ u,(pgB U u).isSome=usedU (X.take k) u) (fun iv _=>X.length-(intOf iv).toNat)
   case atStart=>exact ⟨0,[],Nat.zero_le _,rfl,HB6.out,HM6.out,HI6.out,(show PgJ [] from fun u v B h _=>by cases h),fun u=>rfl⟩
   case round =>
    obtain ⟨k,U,hk,rfl,hB,hM,hI,hJ,hUs⟩:=hrel
    rename World=>V3
    have HM:=hj_ hM;have HI:=hj_ hI;have HJ:=hj_ hJ;have HUs:=hj_ hUs;clear hM hI hJ hUs
    by_cases hlt:k<X.length
    case neg =>
     obtain rfl:k=X.length:=o_
     rw [List.take_length] at HI HUs;have hfr:=qu0 W.heap.size V2.heap.size U (pageV L l PL X);rw [show (fun u=>(pgB U u).isSome)=usedU X from funext HUs.out] at hfr
     have HFr:=hj_ hfr;clear hfr;go_wp2_with fail;refine (HFr.out _ HI.out).mono ?_;rintro e w5 ⟨r,rfl,A,c,rfl,ho,hb⟩;have HOut:=hj_ (show shFm.Out 270 (frmG (usedU X) (pageV L l PL X) 8) w (.slice A (frmG (usedU X) (pageV L l PL X) 8).length c) w5 from Sh.Out.up ⟨A,c,rfl,ho,hb⟩ (ht_ HB0.out hB))
     clear ho hb;go_wp2_with fail;go_ret2;exact ⟨_,rfl,HOut.out⟩
    case pos =>
     obtain ⟨b,o,rfl,hbl,hcell⟩:=fx_at HX.out o_
     have hk4:=hcell k hlt;have kk:=fun (q:Nat)=>hB.cell (p:=⟨b,q,none⟩) hbl
     have hbw:b<V3.heap.size:=Nat.lt_of_lt_of_le hbl hB.size;obtain ⟨hrn,hf1,hf2,p,hp⟩:=HFx.out k hlt;have hpf:=q83 PL X[k].pr;rw [hp] at hpf;obtain ⟨y,hy,hyp⟩:∃ y,PL.find? (fun x=>decide (x.1.s=X[k].pr))=some y∧y.1=p:=by
      cases hq:PL.find? (fun x=>decide (x.1.s=X[k].pr)) with
      | none=>rw [hq] at hpf;cases hpf
      | some y=>rw [hq] at hpf;injection hpf with hpf;exact ⟨y,rfl,hpf.symm⟩
     have hym:=List.mem_of_find?_eq_some hy;have hfv:featV PL X[k].pr=y.2:=by unfold featV;rw [hy]
     obtain ⟨H',hH'⟩:=HP.out.2 y hym;have hFe:=HFe.out y hym;have hft:footV (PL.map Prod.fst) X[k].pr=y.1.ft:=by rw [q9g hp,hyp]
     rw [hft] at hf1 hf2;have hpv:=fun (u:Int)=>qg9 L l PL (X.take k) X[k] u
     rw [← List.take_succ_eq_append_getElem hlt] at hpv;have huv:=fun (u:Int)=>qyn (X.take k) X[k] u
     rw [← List.take_succ_eq_append_getElem hlt] at huv;have i0:(0:Int)≤(k:Int):=o_
     have i1:(k:Int)<(X.length:Int):=o_
     have w0:IntKind.i64.wrap ((k:Int)+1)=(k:Int)+1:=IntWalk.i64_in _ o_
     have HPf2:=hj_ (fun w h1=>HPf.out X[k] p w h1 hp)
     have hnone:=fun (u:Int) (h:pgB U u=none)=>qg8 L l PL u (X.take k) (by rw [← HUs.out u,h];rfl)
     have HNone:=hj_ hnone;clear hcell hp hpf hy hnone hft;rw [hfv] at hpv;generalize X[k]=x at *;obtain ⟨ch,pt,pr,un,ad,ph,cb⟩:=x;obtain ⟨k0,k1,k2,k3,k4,k5,k6⟩:=hk4;have p0:=(kk _).trans k0;have p1:=(kk _).trans k1;have p2:=(kk _).trans k2;have p3:=(kk _).trans k3;have p4:=(kk _).trans k4;have p5:=(kk _).trans k5;have p6:=(kk _).trans k6;clear k0 k1 k2 k3 k4 k5 k6 kk;have had:1≤ad∧ad≤512:=by
      unfold qkt at hrn;simp only [Bool.and_eq_true,decide_eq_true_eq] at hrn;exact hrn.1.2
     dsimp only at p0 p1 p2 p3 p4 p5 p6 hf1 hf2 hpv huv;obtain ⟨⟨ys,yf,yw,yA,yn,yc⟩,yl⟩:=y;dsimp only at hyp hpv hf1 hf2 hH' hFe;subst hyp;have HPv:=hj_ hpv;have HUv:=hj_ huv;have HH':=hj_ hH';have HFe2:=hj_ hFe;have HAd:=hj_ (And.intro had hf2);replace HPf2:=hj_ (show ∀ w',shPr.In w' A1 n1 (PL.map Prod.fst)→Calls prog 143 #[.agg #[.slice A0 n0 d0,.slice A1 n1 d1,.slice (some ⟨b,o,none⟩) X.length d2],.agg #[.int .i64 ch,.int .i64 pt,.string pr,.int .i64 un,.int .i64 ad,.int .i64 ph,.string cb]] w' fun e w''=>e=.returned (.agg #[.string ys,.int .i64 yf,.int .i64 yw,.slice yA yn yc])∧Below w'.heap.size w' w'' from HPf2.out)
     obtain ⟨W1,hW1⟩:=ex_ (V3.alloc (.cells #[.int .i64 ch,.int .i64 pt,.string pr,.int .i64 un,.int .i64 ad,.int .i64 ph,.string cb] 45));have hb1:Below V3.heap.size V3 W1:=by rw [hW1];exact (br_).alloc lr_ _
     have HX1:=hj_ (show Cells W1 V3.heap.size [.int .i64 ch,.int .i64 pt,.string pr,.int .i64 un,.int .i64 ad,.int .i64 ph,.string cb] by rw [hW1];exact Cells.fresh V3 [.int .i64 ch,.int .i64 pt,.string pr,.int .i64 un,.int .i64 ad,.int .i64 ph,.string cb] _)
     have HB1:=hj_ (ht_ hB hb1);have HM1:=hj_ (HM.out.below hb1);have HI1:=hj_ (HI.out.below hb1);have HW1:=hj_ hW1;clear hpv huv hH' hFe hW1 hb1 hrn hf1 hf2 had hfv HPf;have hPg:=qye W.heap.size V2.heap.size U un (pageV L l PL (X.take k)) W1 HI1.out HJ.out HB1.out.size (HNone.out un);go_wp2_with fail;rw [← HW1.out];refine hPg.mono ?_;rintro e w2 ⟨B,U',rfl,hI2,hJ2,hu2,hUs2,hg2⟩;have HB2:=hj_ (HB1.out.grown hg2 HB1.out.size (fun q e=>by cases e;exact HV2.out))
     have HM2:=hj_ (HM1.out.grown hg2 (by intro e;injection e with e;have:=HVV.out;omega))
     have hV3:=HI.out.1.lt;have HX2:=hj_ (HX1.out.grown hg2 o_)
     have HJ2:=hj_ hJ2;have HUs2:=hj_ hUs2;have n1:V3.heap.size<w2.heap.size:=HX2.out.1;have n2:¬ V3.heap.size=w2.heap.size:=o_
     have n3:w.heap.size<w2.heap.size:=Nat.lt_of_lt_of_le (by rw [HW.out];simp) HB2.out.size
     have n4:¬ w.heap.size=w2.heap.size:=o_
     obtain ⟨W4,hW4⟩:=ex_ (w2.alloc (.cells #[.slice (some ⟨B,0,none⟩) 512 512] 194));have hb4:Below w2.heap.size w2 W4:=by rw [hW4];exact (br_).alloc lr_ _
     have HQ4:=hj_ (show Cells W4 w2.heap.size [.slice (some ⟨B,0,none⟩) 512 512] by rw [hW4];exact Cells.fresh w2 [.slice (some ⟨B,0,none⟩) 512 512] _)
     have HX4:=hj_ (HX2.out.below hb4 HX2.out.1);have HB4:=hj_ (ht_ HB2.out hb4);have HM4:=hj_ (HM2.out.below hb4);have HI4:=hj_ (hI2.below hb4);have HW4:=hj_ hW4;obtain ⟨c0,c1,c2⟩:=HK.out _ HB2.out;have x0:=HX2.out.at_ (j:=0) rfl
     have x1:=HX2.out.at_ (j:=1) rfl
     have x2:=HX2.out.at_ (j:=2) rfl
     have x3:=HX2.out.at_ (j:=3) rfl
     have x4:=HX2.out.at_ (j:=4) rfl
     have x5:=HX2.out.at_ (j:=5) rfl
     have x6:=HX2.out.at_ (j:=6) rfl
     have hmf:∀ (fn:Fn) (first cap:Array Value) (w:World),(Instr.makeFunc fn first cap).run prog w=.ok (.func fn first cap) w:=fun _ _ _ _=>rfl
     have hfl:∀ w,(Instr.field 87 (.agg #[.string ys,.int .i64 yf,.int .i64 yw,.slice yA yn yc]) 3).run prog w=.ok (.slice yA yn yc) w:=fun w=>by rfl
     clear hI2 hJ2 hUs2 hg2 hW4 hb4 p0 p1 p2 p3 p4 p5 p6;go_wp2_with fail;rw [← HW4.out];refine (HPf2.out _ (HP.out.below HB4.out).1).mono ?_;rintro e w5 ⟨rfl,hb⟩;have HQ5:=hj_ (HQ4.out.below hb HQ4.out.1);have HX5:=hj_ (HX4.out.below hb HX4.out.1);have HB5:=hj_ (ht_ HB4.out hb);have HM5:=hj_ (HM4.out.below hb);have HI5:=hj_ (HI4.out.below hb);have hynl:yn=yl.length:=by have:=HH'.out.1.1.1;have:=HH'.out.1.2.1;omega
     have hyn2:=HH'.out.2.1;subst hynl;have HSt0:=hj_ (show ∀ v,pageV L l PL (X.take k) v=if v=un then setX L l ⟨ch,pt,pr,un,ad,ph,cb⟩ (pageV L l PL (X.take k) un) (yl.take 0) else pageV L l PL (X.take k) v from fun v=>by
      by_cases e:v=un
      ·subst e
       rw [if_pos rfl]
       rfl
      ·rw [if_neg e])
     clear hb x0 x1 x2 x3 x4 x5 x6 c0 c1 c2;go_wp2_with fail
     go_loopw [62] (fun iv w6=>∃ j:Nat,j≤yl.length∧iv=.int .i64 j∧Below W.heap.size W w6∧MapAt pK w6 V.heap.size (lvL l)∧PgI W.heap.size w6 V2.heap.size U' (fun v=>if v=un then setX L l ⟨ch,pt,pr,un,ad,ph,cb⟩ (pageV L l PL (X.take k) un) (yl.take j) else pageV L l PL (X.take k) v)∧Cells w6 V3.heap.size [.int .i64 ch,.int .i64 pt,.string pr,.int .i64 un,.int .i64 ad,.int .i64 ph,.string cb]∧Cells w6 w2.heap.size [.slice (some ⟨B,0,none⟩) 512 512]) (fun iv _=>yl.length-(intOf iv).toNat)
     case atStart=>exact ⟨0,Nat.zero_le _,rfl,HB5.out,HM5.out,HI5.out.congr HSt0.out,HX5.out,HQ5.out⟩
     case round =>
      obtain ⟨j,hj,rfl,hB6,hM6,hI6,hX6,hQ6⟩:=hrel;have HB6:=hj_ hB6;have HM6:=hj_ hM6;have HI6:=hj_ hI6;have HX6:=hj_ hX6;have HQ6:=hj_ hQ6;clear hB6 hM6 hI6 hX6 hQ6
      by_cases hlt2:j<yl.length
      case neg =>
       obtain rfl:j=yl.length:=o_
       rw [List.take_length] at HI6;go_wp2_with fail
       go_roundw
       case rel=>exact ⟨k+1,U',hlt,by go_num,HB6.out,HM6.out,HI6.out.congr (fun v=>by
        rw [HPv.out]
        by_cases e:v=un
        ·subst e;rw [if_pos rfl]
        ·rw [if_neg e,if_neg (fun e2=>e e2.symm)]),HJ2.out,fun u=>by rw [HUs2.out,HUs.out,HUv.out]⟩
       case measure=>simp [intOf];omega
      case pos =>
       have hjH:j<H'.length:=by have:=HH'.out.1.2.1;omega
       obtain ⟨b2,o2,rfl,hbl2,hc2⟩:=ft_at HH'.out.1.1 o_
       have hkf:=hc2 j hjH;have kk:=fun (q:Nat)=>HB6.out.cell (p:=⟨b2,q,none⟩) hbl2
       have hbw2:b2<wr.heap.size:=Nat.lt_of_lt_of_le hbl2 HB6.out.size;have hfx:=(HH'.out.1.2.2 j hjH hlt2).1;have hfw:=HH'.out.2.2 j hjH hlt2;have hgd:=HFe2.out yl[j] (List.getElem_mem hlt2);have hpush:=qpi L l ⟨ch,pt,pr,un,ad,ph,cb⟩ (pageV L l PL (X.take k) un) (yl.take j) yl[j];rw [← List.take_succ_eq_append_getElem hlt2] at hpush;have j0:(0:Int)≤(j:Int):=o_
       have j1:(j:Int)<(yl.length:Int):=o_
       have w1:IntKind.i64.wrap ((j:Int)+1)=(j:Int)+1:=IntWalk.i64_in _ o_
       obtain ⟨had,hf2⟩:=HAd.out;rw [hfx] at hgd hpush;generalize yl[j].wh=wh at *;clear hfx hc2;generalize H'[j]=f at *;obtain ⟨at_,bits,co,fi,cu,ho,lo,hi,sn,fA,fn,fc⟩:=f
       obtain ⟨hal,hco1,hfi1⟩:=hgd;have hhome:isLev ho:=q0f hal;have htl:=HTold.out ch at_ ho hhome
       have hts:=htl.2;have hrawE:rawE (FC.fea ⟨at_,bits,co,fi,cu,ho,lo,hi,sn,fA,fn,fc⟩ wh) L (toldT l ch at_ ho)=0:=q7i hal htl.1
       have hco:0≤ad-1+co∧ad-1+co<512:=by
        have h:=hco1;change 0≤co∧co<yf at h;omega
       have hfi:bits=16→0≤ad-1+fi∧ad-1+fi<512:=fun h16=>by
        have h:=hfi1 h16;change 0≤fi∧fi<yf at h;omega
       have hpush2:setX L l ⟨ch,pt,pr,un,ad,ph,cb⟩ (pageV L l PL (X.take k) un) (yl.take (j+1))=setF (setX L l ⟨ch,pt,pr,un,ad,ph,cb⟩ (pageV L l PL (X.take k) un) (yl.take j)) ad (FC.fea ⟨at_,bits,co,fi,cu,ho,lo,hi,sn,fA,fn,fc⟩ wh) (rawV (FC.fea ⟨at_,bits,co,fi,cu,ho,lo,hi,sn,fA,fn,fc⟩ wh) L (toldT l ch at_ ho)):=hpush
       have HPush:=hj_ hpush2;have hlook:=qda l ch at_
       have htold:toldT l ch at_ ho=match l.find? fun a=>decide (a.ch=ch) && decide (a.at_=at_) with
        | some a=>a.lev
        | none=>sR (ho:Rat):=rfl
       obtain ⟨k0,k1,k2,k3,k4,k5,k6,k7,k8,k9⟩:=hkf;have p0:=(kk _).trans k0;have p1:=(kk _).trans k1;have p2:=(kk _).trans k2;have p3:=(kk _).trans k3;have p4:=(kk _).trans k4;have p5:=(kk _).trans k5;have p6:=(kk _).trans k6;have p7:=(kk _).trans k7;have p8:=(kk _).trans k8;have p9:=(kk _).trans k9;clear k0 k1 k2 k3 k4 k5 k6 k7 k8 k9 kk hpush hpush2 hal hco1 hfi1 htl;dsimp only at p0 p1 p2 p3 p4 p5 p6 p7 p8 p9;obtain ⟨W7,hW7⟩:=ex_ (wr.alloc (.cells #[.int .i64 at_,.int .i64 bits,.int .i64 co,.int .i64 fi,.int .i64 cu,.int .i64 ho,.int .i64 lo,.int .i64 hi,.bool sn,.slice fA fn fc] 114))
       have hb7:Below wr.heap.size wr W7:=by rw [hW7];exact (br_).alloc lr_ _
       have HY7:=hj_ (show Cells W7 wr.heap.size [.int .i64 at_,.int .i64 bits,.int .i64 co,.int .i64 fi,.int .i64 cu,.int .i64 ho,.int .i64 lo,.int .i64 hi,.bool sn,.slice fA fn fc] by rw [hW7];exact Cells.fresh wr [.int .i64 at_,.int .i64 bits,.int .i64 co,.int .i64 fi,.int .i64 cu,.int .i64 ho,.int .i64 lo,.int .i64 hi,.bool sn,.slice fA fn fc] _)
       have HB7:=hj_ (ht_ HB6.out hb7);have HM7:=hj_ (HM6.out.below hb7);have HI7:=hj_ (HI6.out.below hb7);have HX7:=hj_ (HX6.out.below hb7 HX6.out.1);have HQ7:=hj_ (HQ6.out.below hb7 HQ6.out.1);have HMb:=hj_ (fun (w':World) (h:Below wr.heap.size wr w')=>HM6.out.below h)
       have HW7:=hj_ hW7;have m1:V3.heap.size<wr.heap.size:=HX6.out.1;have m2:¬ V3.heap.size=wr.heap.size:=o_
       have m3:w2.heap.size<wr.heap.size:=HQ6.out.1;have m4:¬ w2.heap.size=wr.heap.size:=o_
       have m5:w.heap.size<wr.heap.size:=o_
       have m6:¬ w.heap.size=wr.heap.size:=o_
       obtain ⟨c0,c1,c2⟩:=HK.out _ HB6.out;have x0:=HX6.out.at_ (j:=0) rfl
       have q0:=HQ6.out.at_ (j:=0) rfl
       clear hW7 hb7
       cases hfd:l.find? fun a=>decide (a.ch=ch) && decide (a.at_=at_) with
       | some a =>
        rw [hfd] at hlook htold;have HLV:=hj_ (show lookV true (lvL l) (ch,at_) (.string ⟨#[]⟩)=.tuple #[.string a.lev,.bool true] by
         unfold lookV;rw [if_pos rfl,hlook]
         rfl)
        rw [htold] at hrawE hts HPush;dsimp only at hrawE hts HPush;clear hlook htold hfd;generalize a.lev=TT at *;go_wp2_with (at_lookup;refine q002 _ rfl _ _ _ _ rfl _ _ underlying201 pK kParam V.heap.size (lvL l) (ch,at_) rfl rfl (HMb.out _ bz_) (.string ⟨#[]⟩) s_ ?_;rw [HLV.out])
        rw [← HW7.out];have d2:=HQ7.out.at_ (j:=0) rfl
        have d3:=HX7.out.at_ (j:=4) rfl
        obtain ⟨hSB,hBM,hRB,hlB⟩:=HI7.out.2.2 un B hu2;have hwr:=HWr.out ⟨at_,bits,co,fi,cu,ho,lo,hi,sn,fA,fn,fc⟩ wh TT ad w2.heap.size V3.heap.size B _ W7 (hfw.below HB7.out) (HL.out.below HB7.out) hts (HT.out.below HB7.out) (HR.out.below HB7.out) hrawE hco hfi had d2 d3 hRB hlB HQ7.out.1 HX7.out.1 (qn5 hRB d2) (row_ne hRB d3)
        replace hwr:=(show Calls prog 145 #[.agg #[.int .i64 at_,.int .i64 bits,.int .i64 co,.int .i64 fi,.int .i64 cu,.int .i64 ho,.int .i64 lo,.int .i64 hi,.bool sn,.slice fA fn fc],.slice A0 n0 d0,.string TT,.func (.func 142) #[] #[.pointer (some ⟨w2.heap.size,0,none⟩),.pointer (some ⟨V3.heap.size,0,none⟩)]] W7 fun e w'=>e=.returned (.int .i64 0)∧RowAt w' B (pgRow (setF (if un=un then setX L l ⟨ch,pt,pr,un,ad,ph,cb⟩ (pageV L l PL (X.take k) un) (yl.take j) else pageV L l PL (X.take k) un) ad (FC.fea ⟨at_,bits,co,fi,cu,ho,lo,hi,sn,fA,fn,fc⟩ wh) (rawV (FC.fea ⟨at_,bits,co,fi,cu,ho,lo,hi,sn,fA,fn,fc⟩ wh) L TT))) 5∧W7.grownBy w' (some B) from hwr)
        refine hwr.mono ?_;rintro e w9 ⟨rfl,hR9,hg9⟩;rw [if_pos rfl] at hR9;have HI9:=hj_ (HI7.out.write HJ2.out hu2 hg9 hR9 (by rw [qpd,qph];exact qg7 L l PL un (X.take k)))
        have HB9:=hj_ (HB7.out.grown hg9 HB7.out.size (fun q e=>by cases e;exact hSB))
        have HM9:=hj_ (HM7.out.grown hg9 (by intro e;injection e with e;exact qn4 hRB HM7.out e.symm))
        have HX9:=hj_ (HX7.out.grown hg9 (row_ne hRB d3));have HQ9:=hj_ (HQ7.out.grown hg9 (qn5 hRB d2));clear hwr hR9 hg9 hRB hlB hSB hBM d2 d3;go_wp2_with fail
        go_roundw
        case rel=>exact ⟨j+1,hlt2,by go_num,HB9.out,HM9.out,HI9.out.congr (fun v=>by
         by_cases e:v=un
         ·subst e;rw [if_pos rfl,if_pos rfl,HPush.out]
         ·rw [if_neg e,if_neg e,if_neg e]),HX9.out,HQ9.out⟩
        case measure=>simp [intOf];omega
       | none =>
        rw [hfd] at hlook htold;have HLV:=hj_ (show lookV true (lvL l) (ch,at_) (.string ⟨#[]⟩)=.tuple #[.string ⟨#[]⟩,.bool false] by
         unfold lookV;rw [if_pos rfl,hlook]
         rfl)
        rw [htold] at hrawE hts HPush;dsimp only at hrawE hts HPush;have hHo:=qu2 ⟨at_,bits,co,fi,cu,ho,lo,hi,sn,fA,fn,fc⟩ W7 hhome (HT.out.below HB7.out)
        replace hHo:=(show Rt 144 #[.agg #[.int .i64 at_,.int .i64 bits,.int .i64 co,.int .i64 fi,.int .i64 cu,.int .i64 ho,.int .i64 lo,.int .i64 hi,.bool sn,.slice fA fn fc]] W7 (.string (sR (ho:Rat))) from hHo)
        clear hlook htold hfd;generalize sR (ho:Rat)=TT at *;go_wp2_with (at_lookup;refine q002 _ rfl _ _ _ _ rfl _ _ underlying201 pK kParam V.heap.size (lvL l) (ch,at_) rfl rfl (HMb.out _ bz_) (.string ⟨#[]⟩) s_ ?_;rw [HLV.out])
        rw [← HW7.out];refine hHo.mono ?_;rintro e w8 ⟨rfl,hb⟩;have HY8:=hj_ (HY7.out.below hb HY7.out.1);have HB8:=hj_ (ht_ HB7.out hb);have HM8:=hj_ (HM7.out.below hb);have HI8:=hj_ (HI7.out.below hb);have HX8:=hj_ (HX7.out.below hb HX7.out.1);have HQ8:=hj_ (HQ7.out.below hb HQ7.out.1);obtain ⟨c0,c1,c2⟩:=HK.out _ HB8.out;have y0:=HY8.out.at_ (j:=0) rfl
        have y1:=HY8.out.at_ (j:=1) rfl
        have y2:=HY8.out.at_ (j:=2) rfl
        have y3:=HY8.out.at_ (j:=3) rfl
        have y4:=HY8.out.at_ (j:=4) rfl
        have y5:=HY8.out.at_ (j:=5) rfl
        have y6:=HY8.out.at_ (j:=6) rfl
        have y7:=HY8.out.at_ (j:=7) rfl
        have y8:=HY8.out.at_ (j:=8) rfl
        have y9:=HY8.out.at_ (j:=9) rfl
        clear hb hHo;go_wp2_with fail;have d2:=HQ8.out.at_ (j:=0) rfl
        have d3:=HX8.out.at_ (j:=4) rfl
        obtain ⟨hSB,hBM,hRB,hlB⟩:=HI8.out.2.2 un B hu2;have hwr:=HWr.out ⟨at_,bits,co,fi,cu,ho,lo,hi,sn,fA,fn,fc⟩ wh TT ad w2.heap.size V3.heap.size B _ w8 (hfw.below HB8.out) (HL.out.below HB8.out) hts (HT.out.below HB8.out) (HR.out.below HB8.out) hrawE hco hfi had d2 d3 hRB hlB HQ8.out.1 HX8.out.1 (qn5 hRB d2) (row_ne hRB d3)
        replace hwr:=(show Calls prog 145 #[.agg #[.int .i64 at_,.int .i64 bits,.int .i64 co,.int .i64 fi,.int .i64 cu,.int .i64 ho,.int .i64 lo,.int .i64 hi,.bool sn,.slice fA fn fc],.slice A0 n0 d0,.string TT,.func (.func 142) #[] #[.pointer (some ⟨w2.heap.size,0,none⟩),.pointer (some ⟨V3.heap.size,0,none⟩)]] w8 fun e w'=>e=.returned (.int .i64 0)∧RowAt w' B (pgRow (setF (if un=un then setX L l ⟨ch,pt,pr,un,ad,ph,cb⟩ (pageV L l PL (X.take k) un) (yl.take j) else pageV L l PL (X.take k) un) ad (FC.fea ⟨at_,bits,co,fi,cu,ho,lo,hi,sn,fA,fn,fc⟩ wh) (rawV (FC.fea ⟨at_,bits,co,fi,cu,ho,lo,hi,sn,fA,fn,fc⟩ wh) L TT))) 5∧w8.grownBy w' (some B) from hwr)
        refine hwr.mono ?_;rintro e w9 ⟨rfl,hR9,hg9⟩;rw [if_pos rfl] at hR9;have HI9:=hj_ (HI8.out.write HJ2.out hu2 hg9 hR9 (by rw [qpd,qph];exact qg7 L l PL un (X.take k)))
        have HB9:=hj_ (HB8.out.grown hg9 HB8.out.size (fun q e=>by cases e;exact hSB))
        have HM9:=hj_ (HM8.out.grown hg9 (by intro e;injection e with e;exact qn4 hRB HM8.out e.symm))
        have HX9:=hj_ (HX8.out.grown hg9 (row_ne hRB d3));have HQ9:=hj_ (HQ8.out.grown hg9 (qn5 hRB d2));clear hwr hR9 hg9 hRB hlB hSB hBM d2 d3;go_wp2_with fail
        go_roundw
        case rel=>exact ⟨j+1,hlt2,by go_num,HB9.out,HM9.out,HI9.out.congr (fun v=>by
         by_cases e:v=un
         ·subst e;rw [if_pos rfl,if_pos rfl,HPush.out]
         ·rw [if_neg e,if_neg e,if_neg e]),HX9.out,HQ9.out⟩
        case measure=>simp [intOf];omega
theorem In_of_cells {α:Type} {S:Sh α} {l:List α} (h:Cells w B (S.vs l)):S.In w (some ⟨B,0,none⟩) l.length l :=
 ⟨rfl,S.vs_length l,fun _=>⟨B,0,rfl,h.1,fun j u hu=>by rw [Nat.zero_add];exact h.at_ hu⟩⟩
end Go.Proofs.YtabhjdmmfdfpeaaGreatDoor
