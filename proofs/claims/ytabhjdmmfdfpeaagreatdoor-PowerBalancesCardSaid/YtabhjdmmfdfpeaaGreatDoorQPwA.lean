/- Lemmas. -/
import Derived.Test.YtabhjdmmfdfpeaaGreatDoorVUniL
namespace Go.Proofs.YtabhjdmmfdfpeaaGreatDoor
set_option maxHeartbeats 32000000
open Go.RowKit
variable {X:List Fx} {u:List Nat} {d sp vals xs:List Value} {B a b base base' c g i j k n z:Nat} {e t:TypeId} {ov v:Value} {w w' w0 w1:World}
theorem q0hd {α:Type} {m:List α→Prop} (h0:m []) (h1:∀ l x,m l→m (l ++ [x])) (l:List α):m l:=by
 have:∀ l:List α,m l.reverse:=fun l=>by
  induction l with
  | nil=>exact h0
  | cons x l ih=>rw [List.reverse_cons];exact h1 _ _ ih
 have h:=this l.reverse
 rwa [List.reverse_reverse] at h
theorem q0fx {β:Type} {l:List β} (h:l.Nodup) (hi:i<l.length) (hj:j<l.length) (e:l[i]=l[j]):i=j:=by
 have hp:=List.pairwise_iff_getElem.1 h
 rcases Nat.lt_trichotomy i j with h1 | h1 | h1
 ·exact absurd e (hp i j hi hj h1)
 ·exact h1
 ·exact absurd e.symm (hp j i hj hi h1)
section
variable {α β:Type} [DecidableEq β]
def ksV (key:α→β) (l:List α):List β:=l.foldl (fun ks x=>if key x ∈ ks then ks else ks ++ [key x]) []
def gsV (key:α→β) (l:List α):List (List α):=(ksV key l).map fun k=>l.filter fun x=>decide (key x=k)
theorem q0fk (key:α→β) (l:List α) (x:α):ksV key (l ++ [x])=if key x ∈ ksV key l then ksV key l else ksV key l ++ [key x]:=by
 unfold ksV;rw [List.foldl_append];rfl
theorem q0fi (key:α→β):∀ (l:List α) (k:β),k ∈ ksV key l↔∃ x ∈ l,key x=k:=by
 intro l;refine q0hd (m:=fun l=>∀ k,k ∈ ksV key l↔∃ x ∈ l,key x=k) ?_ ?_ l
 ·intro k;unfold ksV;simp
 ·intro l x ih k
  rw [q0fk]
  by_cases h:key x ∈ ksV key l
  ·rw [if_pos h,ih]
   refine ⟨fun ⟨y,hy,e⟩=>⟨y,by simp [hy],e⟩,fun ⟨y,hy,e⟩=>?_⟩
   rcases List.mem_append.1 hy with hy | hy
   ·exact ⟨y,hy,e⟩
   ·rw [List.mem_singleton] at hy
    subst hy;rw [e] at h;exact (ih k).1 h
  ·rw [if_neg h,List.mem_append,ih]
   refine ⟨fun hk=>?_,fun ⟨y,hy,e⟩=>?_⟩
   ·rcases hk with ⟨y,hy,e⟩ | hk
    ·exact ⟨y,by simp [hy],e⟩
    ·exact ⟨x,s_,(List.mem_singleton.1 hk).symm⟩
   ·rcases List.mem_append.1 hy with hy | hy
    ·exact Or.inl ⟨y,hy,e⟩
    ·rw [List.mem_singleton] at hy
     subst hy;exact Or.inr (by simp [e])
theorem q0fj (key:α→β):∀ l:List α,(ksV key l).Nodup:=by
 intro l;refine q0hd (m:=fun l=>(ksV key l).Nodup) ?_ ?_ l
 ·unfold ksV;exact List.nodup_nil
 ·intro l x ih
  rw [q0fk]
  by_cases h:key x ∈ ksV key l
  ·rw [if_pos h];exact ih
  ·rw [if_neg h]
   exact List.nodup_append.2 ⟨ih,s_,fun a ha b hb=>by rw [List.mem_singleton] at hb;subst hb;exact fun e=>h (e ▸ ha)⟩
theorem q0es (key:α→β) (l:List α):(gsV key l).length=(ksV key l).length:=by unfold gsV;rw [List.length_map]
theorem gsV_at (key:α→β) (l:List α) (i:Nat) (h:i<(gsV key l).length) (h':i<(ksV key l).length):(gsV key l)[i]=l.filter fun y=>decide (key y=(ksV key l)[i]):=List.getElem_map _
theorem q0eu {key:α→β} {l:List α} {x:α} (hj:j<(ksV key l).length) (h:(ksV key l)[j]=key x) :
  ksV key (l ++ [x])=ksV key l∧gsV key (l ++ [x])=(gsV key l).set j ((gsV key l).getD j [] ++ [x]):=by
 have hm:key x ∈ ksV key l:=h ▸ List.getElem_mem hj;have hk:ksV key (l ++ [x])=ksV key l:=by rw [q0fk,if_pos hm]
 refine ⟨hk,?_⟩
 apply List.ext_getElem
 ·rw [List.length_set,q0es,q0es,hk]
 ·intro i h1 h2
  have hi:i<(ksV key l).length:=by rw [q0es,hk] at h1;exact h1
  have e1:(gsV key (l ++ [x]))[i]=(l ++ [x]).filter fun y=>decide (key y=(ksV key l)[i]):=by
   rw [gsV_at key (l ++ [x]) i h1 (by rw [hk];exact hi)]
   simp only [hk]
  rw [e1,List.getElem_set,List.filter_append]
  by_cases hij:j=i
  ·subst hij
   rw [if_pos rfl];have e2:(gsV key l).getD j []=l.filter fun y=>decide (key y=(ksV key l)[j]):=by
    have hg:j<(gsV key l).length:=by rw [q0es];exact hj
    rw [List.getD_eq_getElem?_getD,List.getElem?_eq_getElem hg];exact gsV_at key l j hg hj
   rw [e2,h];simp
  ·rw [if_neg hij]
   have hne:¬ key x=(ksV key l)[i]:=fun e=>hij (q0fx (q0fj key l) hj hi (h.trans e))
   have e3:=gsV_at key l i (by rw [q0es];exact hi) hi
   rw [e3];simp [hne]
theorem q0et {key:α→β} {l:List α} {x:α} (h:key x ∉ ksV key l):ksV key (l ++ [x])=ksV key l ++ [key x]∧gsV key (l ++ [x])=gsV key l ++ [[x]]:=by
 have hk:ksV key (l ++ [x])=ksV key l ++ [key x]:=by rw [q0fk,if_neg h]
 refine ⟨hk,?_⟩;have hx:l.filter (fun y=>decide (key y=key x))=[]:=List.filter_eq_nil_iff.2 fun y hy=>by
  rw [decide_eq_true_eq];exact fun e=>h ((q0fi key l _).2 ⟨y,hy,e⟩)
 unfold gsV;rw [hk,List.map_append]
 congr 1
 ·apply List.map_congr_left
  intro k hkm;rw [List.filter_append];have hne:¬ key x=k:=fun e=>h (e ▸ hkm)
  simp [hne]
 ·simp [List.filter_append,hx]
end
structure Grps {α:Type} (w:World) (base:Nat) (te tS:TypeId) (z:Nat) (enc:List α→List Value) (ov:Value) (vals:List Value) (gs:List (List α)):Prop where
 out:w.ownsRow base tS 1 ov gs.length vals
 row:∀ j (h:j<gs.length),∃ v,vals[j]? = some v∧w.ownsRow base te z v gs[j].length (enc gs[j])
 dis:∀ (i j:Nat) v u b,i≠j→vals[i]? = some v→vals[j]? = some u→v.ownBlock=some b→u.ownBlock≠some b
 off:∀ (j:Nat) v b,vals[j]? = some v→v.ownBlock=some b→ov.ownBlock≠some b
section
variable {α:Type} {base:Nat} {te tS:TypeId} {z:Nat} {enc:List α→List Value}
theorem q0g1 (h:w.ownsRow base e z v n xs) (hb:v.ownBlock=some b):base≤b∧b<w.heap.size∧∃ c,v=.slice (some ⟨b,0,none⟩) n c:=by
 rcases h.2 with ⟨rfl,rfl⟩ | ⟨g,cap,cur,rfl,hg,hc,_⟩
 ·cases hb
 ·injection hb with hb
  subst hb;exact ⟨hg,(Array.getElem?_eq_some_iff.1 hc).1,cap,rfl⟩
theorem q0g2 (h:w.ownsRow base e z v n xs) (hk:∀ b,v.ownBlock=some b→w'.heap[b]? = w.heap[b]?):w'.ownsRow base e z v n xs:=by
 refine ⟨h.1,h.2.imp id fun ⟨g,cap,cur,hv,hg,hc,r⟩=>⟨g,cap,cur,hv,hg,?_,r⟩⟩
 exact (hk g (by rw [hv];rfl)).trans hc
theorem Grps.nil (w:World):Grps (α:=α) w base te tS z enc (.slice none 0 0) [] [] :=
 ⟨World.ownsRow_nil _ _ _ _,fun j h=>absurd h (Nat.not_lt_zero _),fun i j v u b _ h=>by simp at h,fun j v b h=>by simp at h⟩
theorem Grps.len {gs:List (List α)} (h:Grps w base te tS z enc ov vals gs):vals.length=gs.length:=by
 have:=h.out.1;omega
theorem Grps.kept {gs:List (List α)} (h:Grps w base te tS z enc ov vals gs) (hb:Below w.heap.size w w'):Grps w' base te tS z enc ov vals gs :=
 ⟨q0g2 h.out fun b hq=>hb.block b (q0g1 h.out hq).2.1,fun j hj=>by
  obtain ⟨v,hv,ho⟩:=h.row j hj;exact ⟨v,hv,q0g2 ho fun b hq=>hb.block b (q0g1 ho hq).2.1⟩,h.dis,h.off⟩
theorem Grps.new {gs:List (List α)} (h:Grps w base te tS z enc ov vals gs) (hz:enc []=[])
  (ho:w1.ownsRow base tS 1 (.slice (some ⟨g,0,none⟩) (gs.length+1) c) (gs.length+1) (vals ++ [.slice none 0 0])) (hg:w.grownBy w1 ov.ownBlock) (hx:ov.ownBlock=some g∨w.heap.size≤g) :
  Grps w1 base te tS z enc (.slice (some ⟨g,0,none⟩) (gs.length+1) c) (vals ++ [.slice none 0 0]) (gs ++ [[]]):=by
 have hl:=h.len;have key:∀ (j:Nat) v,(vals ++ [Value.slice none 0 0])[j]? = some v→(∃ _:j<gs.length,vals[j]? = some v)∨(j=gs.length∧v=.slice none 0 0):=fun j v hv=>by
  rcases Nat.lt_or_ge j vals.length with hj | hj
  ·rw [List.getElem?_append_left hj] at hv
   exact Or.inl ⟨o_,hv⟩
  ·rw [List.getElem?_append_right hj] at hv
   have:j-vals.length=0:=by
    rcases Nat.eq_zero_or_pos (j-vals.length) with h | h
    ·exact h
    ·rw [List.getElem?_eq_none (by simp only [List.length_cons,List.length_nil];omega)] at hv;cases hv
   rw [this] at hv
   injection hv with hv
   exact Or.inr ⟨o_,hv.symm⟩
 refine ⟨by rw [List.length_append];exact ho,fun j hj=>?_,fun i j v u b hij hv hu hb=>?_,fun j v b hv hb=>?_⟩
 ·rcases Nat.lt_or_ge j gs.length with hj' | hj'
  ·obtain ⟨v,hv,hr⟩:=h.row j hj'
   refine ⟨v,by rw [List.getElem?_append_left o_];exact hv,?_⟩
   rw [List.getElem_append_left hj'];exact q0g2 hr fun b hq=>hg.block b (q0g1 hr hq).2.1 (fun e=>h.off j v b hv hq e.symm)
  ·have e:j=gs.length:=by rw [List.length_append] at hj;simp at hj;omega
   subst e;refine ⟨.slice none 0 0,by rw [List.getElem?_append_right o_];simp [hl],?_⟩
   rw [List.getElem_append_right lr_];simp only [Nat.sub_self,List.getElem_cons_zero,List.length_nil,hz];exact World.ownsRow_nil _ _ _ _
 ·rcases key i v hv with ⟨hi,hv'⟩ | ⟨rfl,rfl⟩
  ·rcases key j u hu with ⟨hj,hu'⟩ | ⟨rfl,rfl⟩
   ·exact h.dis i j v u b hij hv' hu' hb
   ·simp [Value.ownBlock]
  ·cases hb
 ·rcases key j v hv with ⟨hj,hv'⟩ | ⟨rfl,rfl⟩
  ·intro e
   have e:g=b:=by injection e
   subst e;obtain ⟨v',hv'',hr⟩:=h.row j hj;rw [hv'] at hv''
   injection hv'' with hv''
   subst hv''
   rcases hx with hx | hx
   ·exact h.off j v _ hv' hb hx
   ·have:=(q0g1 hr hb).2.1
    omega
  ·cases hb
theorem q0g3 (h:w.ownsRow base e 1 (.slice (some ⟨g,0,none⟩) n c) n xs) (j:Nat) (v:Value):(w.setCell ⟨g,j,none⟩ v).ownsRow base e 1 (.slice (some ⟨g,0,none⟩) n c) n (xs.set j v):=by
 refine ⟨by rw [List.length_set];exact h.1,h.2.imp id fun ⟨g',cap,cur,hv,hg,hc,h1,h2,h3,h4⟩=>?_⟩
 injection hv with e1 e2 e3
 injection e1 with e1
 injection e1 with e1
 subst e1;refine ⟨g,cap,cur.setIfInBounds j v,by rw [e3],hg,RowAt.set (show RowAt w g cur e from hc) j v,h1,h2,by rw [Array.size_setIfInBounds];exact h3,?_⟩
 rw [Array.toList_setIfInBounds,List.take_set,h4]
theorem Grps.push {gs:List (List α)} {og oc:Nat} (h:Grps w base te tS z enc (.slice (some ⟨og,0,none⟩) gs.length oc) vals gs) (j:Nat) (hj:j<gs.length) (hv:vals[j]? = some v) (x:α)
  (ho:w1.ownsRow base te z (.slice (some ⟨g,0,none⟩) (gs[j].length+1) c) (gs[j].length+1) (enc (gs[j] ++ [x]))) (hg:w.grownBy w1 v.ownBlock) (hx:v.ownBlock=some g∨w.heap.size≤g) :
  Grps (w1.setCell ⟨og,j,none⟩ (.slice (some ⟨g,0,none⟩) (gs[j].length+1) c)) base te tS z enc (.slice (some ⟨og,0,none⟩) gs.length oc) (vals.set j (.slice (some ⟨g,0,none⟩) (gs[j].length+1) c)) (gs.set j (gs[j] ++ [x])):=by
 have hl:=h.len;have hog:=q0g1 h.out (b:=og) rfl;have hgo:g≠og:=fun e=>by
  subst e
  rcases hx with hx | hx
  ·exact h.off j v _ hv hx rfl
  ·omega
 have ho1:w1.ownsRow base tS 1 (.slice (some ⟨og,0,none⟩) gs.length oc) gs.length vals:=q0g2 h.out fun b hq=>by
  injection hq with hq
  subst hq;exact hg.block _ hog.2.1 (fun e=>h.off j v _ hv e.symm rfl)
 have far:∀ {vv:Value} {n:Nat} {xs:List Value} {t:TypeId} {zz:Nat},w1.ownsRow base t zz vv n xs→vv.ownBlock≠some og→(w1.setCell ⟨og,j,none⟩ (.slice (some ⟨g,0,none⟩) (gs[j].length+1) c)).ownsRow base t zz vv n xs:=fun hr hne =>
  ⟨hr.1,hr.2.imp id fun ⟨g',cap,cur,hv,hg,hc,r⟩=>⟨g',cap,cur,hv,hg,RowAt.far (B:=g') hc j _ (fun e=>hne (by rw [hv,e];rfl)),r⟩⟩
 have key:∀ (i:Nat) u,(vals.set j (.slice (some ⟨g,0,none⟩) (gs[j].length+1) c))[i]? = some u→(i=j∧u=.slice (some ⟨g,0,none⟩) (gs[j].length+1) c)∨(i≠j∧vals[i]? = some u):=fun i u hu=>by
  by_cases hij:j=i
  ·subst hij
   rw [List.getElem?_set_self o_] at hu
   injection hu with hu
   exact Or.inl ⟨rfl,hu.symm⟩
  ·rw [List.getElem?_set_ne hij] at hu
   exact Or.inr ⟨fun e=>hij e.symm,hu⟩
 have hrow:∀ (i:Nat) u,vals[i]? = some u→∀ b,u.ownBlock=some b→b<w.heap.size:=fun i u hu b hb=>by
  have hi:i<gs.length:=by
   rcases Nat.lt_or_ge i vals.length with h | h
   ·omega
   ·rw [List.getElem?_eq_none h] at hu;cases hu
  obtain ⟨v',hv',hr⟩:=h.row i hi;rw [hu] at hv'
  injection hv' with hv'
  subst hv';exact (q0g1 hr hb).2.1
 refine ⟨?_,fun i hi=>?_,fun i i' u u' b' hii hu hu' hb=>?_,fun i u b hu hb=>?_⟩
 ·rw [List.length_set]
  exact q0g3 ho1 j _
 ·rw [List.length_set] at hi
  by_cases hij:j=i
  ·subst hij
   refine ⟨_,by rw [List.getElem?_set_self o_],?_⟩
   rw [List.getElem_set_self];rw [List.length_append];exact far ho (fun e=>hgo (by injection e))
  ·obtain ⟨u,hu,hr⟩:=h.row i hi
   refine ⟨u,by rw [List.getElem?_set_ne hij];exact hu,?_⟩
   rw [List.getElem_set_ne hij];refine far (q0g2 hr fun b hq=>hg.block b (q0g1 hr hq).2.1 (fun e=>?_)) (fun e=>h.off i u og hu e rfl)
   exact h.dis i j u v b (fun e=>hij e.symm) hu hv hq e.symm
 ·rcases key i u hu with ⟨rfl,rfl⟩ | ⟨hi,hu1⟩
  ·rcases key i' u' hu' with ⟨rfl,rfl⟩ | ⟨hi',hu1'⟩
   ·exact absurd rfl hii
   ·have hb:g=b':=by injection hb
    rw [← hb]
    rcases hx with hx | hx
    ·exact h.dis i i' v u' g hii hv hu1' hx
    ·exact fun e=>by have:=hrow i' u' hu1' _ e;omega
  ·rcases key i' u' hu' with ⟨rfl,rfl⟩ | ⟨hi',hu1'⟩
   ·intro e
    have e:g=b':=by injection e
    subst e
    rcases hx with hx | hx
    ·exact h.dis i i' u v _ hii hu1 hv hb hx
    ·have:=hrow i u hu1 _ hb;omega
   ·exact h.dis i i' u u' b' hii hu1 hu1' hb
 ·rcases key i u hu with ⟨rfl,rfl⟩ | ⟨hi,hu1⟩
  ·injection hb with hb
   subst hb;exact fun e=>hgo (by injection e with e;exact e.symm)
  ·exact h.off i u b hu1 hb
end
def cbV (X:List Fx) (i:Nat):ByteArray:=(X.getD i fx0).cb
def uKey (X:List Fx) (i:Nat):ByteArray × Int:=if cbV X i=⟨#[]⟩ then (⟨#[]⟩,(i:Int)) else (cbV X i,-1)
theorem q0i5:uKey X i=uKey X j↔i=j∨(cbV X i≠⟨#[]⟩∧cbV X i=cbV X j):=by
 unfold uKey
 by_cases h1:cbV X i=⟨#[]⟩ <;> by_cases h2:cbV X j=⟨#[]⟩
 ·rw [if_pos h1,if_pos h2]
  refine ⟨fun e=>Or.inl ?_,fun e=>?_⟩
  ·have:=congrArg Prod.snd e
   dsimp only at this;omega
  ·rcases e with rfl | ⟨e,_⟩
   ·rfl
   ·exact absurd h1 e
 ·rw [if_pos h1,if_neg h2]
  refine ⟨fun e=>?_,fun e=>?_⟩
  ·have:=congrArg Prod.snd e
   dsimp only at this;omega
  ·rcases e with rfl | ⟨e,_⟩
   ·exact absurd h1 h2
   ·exact absurd h1 e
 ·rw [if_neg h1,if_pos h2]
  refine ⟨fun e=>?_,fun e=>?_⟩
  ·have:=congrArg Prod.snd e
   dsimp only at this;omega
  ·rcases e with rfl | ⟨_,e⟩
   ·exact absurd h2 h1
   ·exact absurd (e.trans h2) h1
 ·rw [if_neg h1,if_neg h2]
  refine ⟨fun e=>Or.inr ⟨h1,congrArg Prod.fst e⟩,fun e=>?_⟩
  rcases e with rfl | ⟨_,e⟩
  ·rfl
  ·rw [e]
def unitAt (X:List Fx) (i:Nat):List Nat:=(List.range X.length).filter fun k=>decide (uKey X k=uKey X i)
def unitsV (X:List Fx):List (List Nat):=gsV (uKey X) (List.range X.length)
theorem q0ih:k ∈ unitAt X i↔k<X.length∧uKey X k=uKey X i:=by
 unfold unitAt;rw [List.mem_filter,List.mem_range,decide_eq_true_eq]
theorem q0ig (h:uKey X k=uKey X i):unitAt X k=unitAt X i:=by unfold unitAt;rw [h]
theorem q0il:u ∈ unitsV X↔∃ i,i<X.length∧u=unitAt X i:=by
 unfold unitsV gsV;rw [List.mem_map];refine ⟨fun ⟨k,hk,e⟩=>?_,fun ⟨i,hi,e⟩=>?_⟩
 ·obtain ⟨i,hi,rfl⟩:=(q0fi _ _ _).1 hk
  exact ⟨i,List.mem_range.1 hi,e.symm⟩
 ·exact ⟨uKey X i,(q0fi _ _ _).2 ⟨i,List.mem_range.2 hi,rfl⟩,e.symm⟩
theorem q0in (X:List Fx):(unitsV X).Nodup:=by
 unfold unitsV gsV;refine List.pairwise_map.2 ?_;refine List.Pairwise.imp_of_mem ?_ (q0fj (uKey X) (List.range X.length));intro a b ha hb hab e;obtain ⟨i,hi,rfl⟩:=(q0fi _ _ _).1 ha
 have:i ∈ (List.range X.length).filter fun x=>decide (uKey X x=uKey X i):=List.mem_filter.2 ⟨hi,s_⟩
 rw [e,List.mem_filter,decide_eq_true_eq] at this;exact hab this.2
def headN (u:List Nat):Nat:=u.headD 0
theorem q0ii (hi:i<X.length):headN (unitAt X i) ∈ unitAt X i∧∀ k ∈ unitAt X i,headN (unitAt X i)≤k:=by
 have hm:i ∈ unitAt X i:=q0ih.2 ⟨hi,rfl⟩;have hp:(unitAt X i).Pairwise (· < ·):=List.Pairwise.filter _ List.pairwise_lt_range
 revert hm hp
 generalize unitAt X i=u;intro hm hp
 cases u with
 | nil=>cases hm
 | cons a l =>
  refine ⟨by simp [headN],fun k hk=>?_⟩
  show a≤k
  rcases List.mem_cons.1 hk with rfl | hk
  ·exact Nat.le_refl _
  ·exact Nat.le_of_lt ((List.pairwise_cons.1 hp).1 k hk)
def uW (W:Nat→Int) (u:List Nat):Int:=u.foldl (fun s i=>s+W i) 0
def ltU (W:Nat→Int) (a b:List Nat):Prop:=uW W b<uW W a∨(uW W a=uW W b∧headN a<headN b)
def sumI (c:Nat→Bool) (W:Nat→Int):Nat→Int
 | 0=>0
 | n+1=>sumI c W n+if c n then W n else 0
theorem q0hw {c d:Nat→Bool} {W V:Nat→Int}:∀ {n},(∀ i,i<n→c i=d i)→(∀ i,i<n→W i=V i)→sumI c W n=sumI d V n
 | 0,_,_=>rfl
 | n+1,h,k=>by
  unfold sumI;rw [q0hw (fun i hi=>h i o_) (fun i hi=>k i o_),h n o_,k n o_]
theorem q0i0 {c d e:Nat→Bool} {W:Nat→Int}:∀ {n},(∀ i,i<n→e i=(c i || d i))→(∀ i,i<n→(c i && d i)=false)→sumI e W n=sumI c W n+sumI d W n
 | 0,_,_=>rfl
 | n+1,h,k=>by
  have ih:=q0i0 (W:=W) (fun i hi=>h i (Nat.lt_succ_of_lt hi)) (fun i hi=>k i (Nat.lt_succ_of_lt hi))
  have h1:=h n o_
  have k1:=k n o_
  unfold sumI;rw [ih,h1]
  cases hc:c n <;> cases hd:d n <;> rw [hc,hd] at k1 <;> simp at k1 ⊢ <;> omega
theorem q0hy {c:Nat→Bool} {W:Nat→Int}:∀ {n},(∀ i,i<n→c i=false)→sumI c W n=0
 | 0,_=>rfl
 | n+1,h=>by
  unfold sumI;rw [q0hy (fun i hi=>h i o_),h n o_];rfl
theorem q0hz {c:Nat→Bool} {W:Nat→Int}:∀ {n},(∀ i,i<n→0≤W i)→0≤sumI c W n
 | 0,_=>Int.le_refl _
 | n+1,h=>by
  unfold sumI
  have:=q0hz (c:=c) (n:=n) (fun i hi=>h i o_)
  have h1:=h n o_
  split <;> omega
theorem q0ic (c:Nat→Bool) (W:Nat→Int):∀ n,uW W ((List.range n).filter c)=sumI c W n
 | 0=>rfl
 | n+1=>by
  have ih:=q0ic c W n;show uW W _=sumI c W n+if c n then W n else 0
  rw [← ih];unfold uW;rw [List.range_succ,List.filter_append,List.foldl_append]
  cases h:c n <;> simp [h]
def lgt (s:Int × Int × Int):Nat:=if s.1≤s.2.1∧s.1≤s.2.2 then 0 else if s.2.1≤s.2.2 then 1 else 2
def nthS (s:Int × Int × Int) (i:Nat):Int:=if i=0 then s.1 else if i=1 then s.2.1 else s.2.2
def addS (s:Int × Int × Int) (i:Nat) (w:Int):Int × Int × Int:=(if i=0 then s.1+w else s.1,if i=1 then s.2.1+w else s.2.1,if i=2 then s.2.2+w else s.2.2)
theorem lgt_lt (s:Int × Int × Int):lgt s<3:=by unfold lgt;repeat' split <;> try omega
theorem lgt_le (s:Int × Int × Int):nthS s (lgt s)≤s.1∧nthS s (lgt s)≤s.2.1∧nthS s (lgt s)≤s.2.2:=by
 unfold lgt
 by_cases h1:s.1≤s.2.1∧s.1≤s.2.2
 ·rw [if_pos h1];simp [nthS];omega
 ·rw [if_neg h1]
  by_cases h2:s.2.1≤s.2.2
  ·rw [if_pos h2];simp [nthS];omega
  ·rw [if_neg h2];simp [nthS];omega
theorem q0fy (s:Int × Int × Int) (i:Nat) (w:Int) (k:Nat) (hi:i<3) (hk:k<3):nthS (addS s i w) k=if k=i then nthS s k+w else nthS s k:=by
 unfold nthS addS;have h1:i=0∨i=1∨i=2:=o_
 have h2:k=0∨k=1∨k=2:=o_
 rcases h1 with rfl | rfl | rfl <;> rcases h2 with rfl | rfl | rfl <;> simp
def stepU (W:Nat→Int) (st:(Int × Int × Int) × (Nat→Int)) (u:List Nat):(Int × Int × Int) × (Nat→Int):=(addS st.1 (lgt st.1) (uW W u),fun k=>if k ∈ u then (lgt st.1:Int)+1 else st.2 k)
def runU (W:Nat→Int) (ph:Nat→Int) (U:List (List Nat)):(Int × Int × Int) × (Nat→Int):=U.foldl (stepU W) ((0,0,0),ph)
theorem q0hl (W:Nat→Int) (ph:Nat→Int) (U:List (List Nat)) (u:List Nat):runU W ph (U ++ [u])=stepU W (runU W ph U) u:=by unfold runU;rw [List.foldl_append];rfl
def setPh (X:List Fx) (ph:Nat→Int):List Fx:=X.mapIdx fun i x=>{ x with ph:=ph i }
theorem q0ht (X:List Fx) (ph:Nat→Int):(setPh X ph).length=X.length:=by unfold setPh;rw [List.length_mapIdx]
theorem q0hr (X:List Fx) (ph:Nat→Int) (i:Nat) (h:i<(setPh X ph).length) (h':i<X.length):(setPh X ph)[i] = { X[i] with ph:=ph i }:=List.getElem_mapIdx ..
theorem q0hu (X:List Fx):setPh X (fun i=>(X.getD i fx0).ph)=X:=by
 apply List.ext_getElem (q0ht _ _)
 intro i h1 h2;rw [q0hr X _ i h1 h2,List.getD_eq_getElem?_getD,List.getElem?_eq_getElem h2]
 rfl
theorem q0hs {p q:Nat→Int} (h:∀ i,i<X.length→p i=q i):setPh X p=setPh X q:=by
 apply List.ext_getElem (by rw [q0ht,q0ht])
 intro i h1 h2;have h3:i<X.length:=by rw [q0ht] at h1;exact h1
 rw [q0hr X p i h1 h3,q0hr X q i h2 h3,h i h3]
theorem q0hv (X:List Fx) (ph:Nat→Int) (i:Nat) (h:i<X.length) (v:Int):(setPh X ph).set i { X[i] with ph:=v } = setPh X (fun k=>if k=i then v else ph k):=by
 apply List.ext_getElem (by rw [List.length_set,q0ht,q0ht])
 intro k h1 h2;have h3:k<X.length:=by rw [q0ht] at h2;exact h2
 rw [List.getElem_set,q0hr X _ k h2 h3]
 by_cases hk:i=k
 ·subst hk;simp
 ·rw [if_neg hk,q0hr X ph k (by rw [q0ht];exact h3) h3]
  simp only;rw [if_neg (fun e=>hk e.symm)]
structure Units (n:Nat) (U:List (List Nat)):Prop where
 own:∀ u ∈ U,∃ c:Nat→Bool,u=(List.range n).filter c
 dis:U.Pairwise fun u v=>∀ k,k ∈ u→k ∉ v
theorem Units.init {U:List (List Nat)} (h:Units n (U ++ [u])):Units n U∧(∃ c:Nat→Bool,u=(List.range n).filter c)∧∀ v ∈ U,∀ k,k ∈ v→k ∉ u:=by
 have h2:=List.pairwise_append.1 h.dis;exact ⟨⟨fun v hv=>h.own v (by simp [hv]),h2.1⟩,h.own u s_,fun v hv=>h2.2.2 v hv u s_⟩
def doneU (U:List (List Nat)) (i:Nat):Bool:=U.any fun u=>decide (i ∈ u)
theorem q0hp {W:Nat→Int} {ph:Nat→Int}:∀ {U:List (List Nat)},Units n U→∀ k,k<3→nthS (runU W ph U).1 k=sumI (fun i=>doneU U i && decide ((runU W ph U).2 i=(k:Int)+1)) W n:=by
 intro U;refine q0hd (m:=fun U=>Units n U→∀ k,k<3→nthS (runU W ph U).1 k=sumI (fun i=>doneU U i && decide ((runU W ph U).2 i=(k:Int)+1)) W n) ?_ ?_ U
 ·intro _ k hk
  rw [q0hy (fun i _=>by simp [doneU])]
  show nthS (0,0,0) k=0
  unfold nthS;split <;> (try split) <;> rfl
 ·intro U u ih h k hk
  obtain ⟨h1,⟨c,hc⟩,h2⟩:=h.init;have ih:=ih h1 k hk;rw [q0hl];generalize runU W ph U=st at *;have hdone:∀ i,doneU (U ++ [u]) i=(doneU U i || decide (i ∈ u)):=fun i=>by unfold doneU;simp
  have hno:∀ i,doneU U i=true→i ∉ u:=fun i hi=>by
   unfold doneU at hi;rw [List.any_eq_true] at hi;obtain ⟨v,hv,e⟩:=hi;rw [decide_eq_true_eq] at e;exact h2 v hv i e
  have hu:∀ i,i<n→decide (i ∈ u)=c i:=fun i hi=>by
   rw [hc]
   cases hci:c i <;> simp [hci,hi]
  show nthS (addS st.1 (lgt st.1) (uW W u)) k=_
  rw [q0fy st.1 _ _ k (lgt_lt _) hk,hc,q0ic,← hc];have e2:∀ i,(stepU W st u).2 i=if i ∈ u then (lgt st.1:Int)+1 else st.2 i:=fun i=>rfl
  by_cases hkl:k=lgt st.1
  ·rw [if_pos hkl,ih]
   refine (q0i0 (fun i hi=>?_) (fun i hi=>?_)).symm
   ·rw [hdone,e2]
    by_cases hiu:i ∈ u
    ·have:c i=true:=by rw [← hu i hi];exact decide_eq_true hiu
     rw [if_pos hiu,this,decide_eq_true hiu,decide_eq_true (show (lgt st.1:Int)+1=(k:Int)+1 by omega)]
     simp
    ·have:c i=false:=by rw [← hu i hi];exact decide_eq_false hiu
     rw [if_neg hiu,this,decide_eq_false hiu];simp
   ·cases hd:doneU U i with
    | false=>simp
    | true =>
     have:=hno i hd
     rw [← hu i hi,decide_eq_false this];simp
  ·rw [if_neg hkl,ih]
   refine q0hw (fun i hi=>?_) (fun _ _=>rfl)
   rw [hdone,e2]
   by_cases hiu:i ∈ u
   ·have:doneU U i=false:=by
     cases hd:doneU U i with
     | false=>rfl
     | true=>exact absurd hiu (hno i hd)
    rw [if_pos hiu,this,decide_eq_true hiu,decide_eq_false (show ¬ (lgt st.1:Int)+1=(k:Int)+1 by omega)]
    simp
   ·rw [if_neg hiu,decide_eq_false hiu]
    simp
theorem q0hm {W:Nat→Int} {ph:Nat→Int} {M:Int} (hM:0≤M):∀ {U:List (List Nat)},(∀ u ∈ U,0≤uW W u∧uW W u≤M)→∀ i j,i<3→j<3→nthS (runU W ph U).1 i-nthS (runU W ph U).1 j≤M:=by
 intro U;refine q0hd (m:=fun U=>(∀ u ∈ U,0≤uW W u∧uW W u≤M)→∀ i j,i<3→j<3→nthS (runU W ph U).1 i-nthS (runU W ph U).1 j≤M) ?_ ?_ U
 ·intro _ i j _ _
  have:∀ k,nthS (runU W ph []).1 k=0:=fun k=>by
   show nthS (0,0,0) k=0
   unfold nthS;split <;> (try split) <;> rfl
  rw [this,this];omega
 ·intro U u ih h i j hi hj
  have ih:=ih (fun v hv=>h v (by simp [hv]))
  obtain ⟨u0,u1⟩:=h u s_
  rw [q0hl];generalize runU W ph U=st at *;show nthS (addS st.1 (lgt st.1) (uW W u)) i-nthS (addS st.1 (lgt st.1) (uW W u)) j≤M
  rw [q0fy st.1 _ _ i (lgt_lt _) hi,q0fy st.1 _ _ j (lgt_lt _) hj];have hl:=lgt_le st.1;have hlj:nthS st.1 (lgt st.1)≤nthS st.1 j:=by
   obtain rfl | rfl | rfl:j=0∨j=1∨j=2:=o_
   ·exact hl.1
   ·exact hl.2.1
   ·exact hl.2.2
  have h1:=ih i j hi hj
  by_cases e1:i=lgt st.1 <;> by_cases e2:j=lgt st.1
  ·rw [if_pos e1,if_pos e2];omega
  ·rw [if_pos e1,if_neg e2]
   rw [← e1] at hlj;omega
  ·rw [if_neg e1,if_pos e2];omega
  ·rw [if_neg e1,if_neg e2];exact h1
theorem q0hn {W:Nat→Int} {ph:Nat→Int}:∀ {U:List (List Nat)} {i:Nat},doneU U i=true→∃ k:Nat,k<3∧(runU W ph U).2 i=(k:Int)+1:=by
 intro U;refine q0hd (m:=fun U=>∀ {i:Nat},doneU U i=true→∃ k:Nat,k<3∧(runU W ph U).2 i=(k:Int)+1) ?_ ?_ U
 ·intro i h;cases h
 ·intro U u ih i h
  rw [q0hl];show ∃ k:Nat,k<3∧(if i ∈ u then (lgt (runU W ph U).1:Int)+1 else (runU W ph U).2 i)=(k:Int)+1
  by_cases hi:i ∈ u
  ·exact ⟨lgt (runU W ph U).1,lgt_lt _,if_pos hi⟩
  ·rw [if_neg hi]
   apply ih
   unfold doneU at h ⊢;rw [List.any_append,Bool.or_eq_true] at h
   rcases h with h | h
   ·exact h
   ·simp [hi] at h
theorem q0ho {W:Nat→Int} {ph:Nat→Int}:∀ {U:List (List Nat)},(U.Pairwise fun u v=>∀ k,k ∈ u→k ∉ v)→∀ u ∈ U,∀ i j,i ∈ u→j ∈ u→(runU W ph U).2 i=(runU W ph U).2 j:=by
 intro U;refine q0hd (m:=fun U=>(U.Pairwise fun u v=>∀ k,k ∈ u→k ∉ v)→∀ u ∈ U,∀ i j,i ∈ u→j ∈ u→(runU W ph U).2 i=(runU W ph U).2 j) ?_ ?_ U
 ·intro _ u hu;cases hu
 ·intro U v ih hp u hu i j hi hj
  obtain ⟨h1,_,h3⟩:=List.pairwise_append.1 hp;rw [q0hl];show (if i ∈ v then _ else (runU W ph U).2 i)=(if j ∈ v then _ else (runU W ph U).2 j)
  rcases List.mem_append.1 hu with hu | hu
  ·rw [if_neg (h3 u hu v s_ i hi),if_neg (h3 u hu v s_ j hj)]
   exact ih h1 u hu i j hi hj
  ·rw [List.mem_singleton] at hu
   subst hu;rw [if_pos hi,if_pos hj]
section
variable {κ:Type}
def plO:Nat→List κ→List (κ × Value)
 | _,[]=>[]
 | o,k :: l=>(k,.int .i64 (o:Int)) :: plO (o+1) l
def plL (l:List κ):List (κ × Value):=plO 0 l
theorem q0gb (k:κ):∀ (l:List κ) (o:Nat),plO o (l ++ [k])=plO o l ++ [(k,.int .i64 ((o+l.length:Nat):Int))]
 | [],o=>rfl
 | a :: l,o=>by
  show (a,Value.int .i64 (o:Int)) :: plO (o+1) (l ++ [k])=_
  rw [q0gb k l (o+1)];show _=(a,Value.int .i64 (o:Int)) :: (plO (o+1) l ++ [(k,.int .i64 ((o+(l.length+1):Nat):Int))])
  rw [show o+1+l.length=o+(l.length+1) by omega]
theorem q0ga (l:List κ) (k:κ):plL l ++ [(k,.int .i64 (l.length:Int))]=plL (l ++ [k]):=by
 unfold plL;rw [q0gb,Nat.zero_add]
variable [DecidableEq κ]
theorem q0fm (k:κ):∀ (l:List κ) (o i:Nat),k ∉ l→findL (plO o l) k i=none
 | [],_,_,_=>rfl
 | a :: l,o,i,h=>by
  have h1:¬ k=a:=fun e=>h (by rw [e];exact List.mem_cons_self)
  have h2:k ∉ l:=fun e=>h (List.mem_cons_of_mem _ e)
  show (if k=a then some (i,Value.int .i64 (o:Int)) else findL (plO (o+1) l) k (i+1))=none
  rw [if_neg h1];exact q0fm k l _ _ h2
theorem q0fn (k:κ):∀ (l:List κ) (o i:Nat),k ∈ l→∃ (j:Nat) (hj:j<l.length),l[j]=k∧findL (plO o l) k i=some (i+j,.int .i64 ((o+j:Nat):Int))
 | [],_,_,h=>by cases h
 | a :: l,o,i,h=>by
  by_cases h1:k=a
  ·refine ⟨0,s_,h1.symm,?_⟩
   show (if k=a then some (i,Value.int .i64 (o:Int)) else _)=_
   rw [if_pos h1];rfl
  ·have h2:k ∈ l:=(List.mem_cons.1 h).resolve_left h1
   obtain ⟨j,hj,e1,e2⟩:=q0fn k l (o+1) (i+1) h2;refine ⟨j+1,by simpa using hj,by simpa using e1,?_⟩
   show (if k=a then some (i,Value.int .i64 (o:Int)) else findL (plO (o+1) l) k (i+1))=_
   rw [if_neg h1,e2,show i+1+j=i+(j+1) by omega,show o+1+j=o+(j+1) by omega]
theorem q03g {l:List κ} {k:κ} (h:k ∉ l):lookL (plL l) k=none:=by unfold lookL plL;rw [q0fm k l 0 0 h];rfl
theorem q0fo {l:List κ} {k:κ} (h:k ∈ l):∃ (j:Nat) (hj:j<l.length),l[j]=k∧lookL (plL l) k=some (.int .i64 (j:Int)):=by
 obtain ⟨j,hj,e1,e2⟩:=q0fn k l 0 0 h;exact ⟨j,hj,e1,by unfold lookL plL;rw [e2,Nat.zero_add];rfl⟩
end
theorem gsV_le {α β:Type} [DecidableEq β] (key:α→β) (l:List α):∀ g ∈ gsV key l,g.length≤l.length:=fun g hg=>by
 unfold gsV at hg;obtain ⟨k,_,rfl⟩:=List.mem_map.1 hg;exact List.length_filter_le _ _
theorem ksV_le {α β:Type} [DecidableEq β] (key:α→β):∀ l:List α,(ksV key l).length≤l.length:=by
 intro l;refine q0hd (m:=fun l=>(ksV key l).length≤l.length) lr_ ?_ l
 intro l x ih;rw [q0fk,List.length_append]
 split
 ·omega
 ·rw [List.length_append];simp;omega
theorem q0j0 {P:Program} {ops:Array Oper} {rest:List Oper} {o:Oper} {a:Act} {Q:Exit→Act→World→Prop} (hgd:o.guard=none) (s x:Operand) (t:TypeId)
  (ho:o.op=.call { callee:=.builtin .append,args:=#[s,x],argTypes:=#[t,t] })
  (base:Nat) (e:TypeId) (z:Value) (size bytes:Nat) (ht:P.underlying t=some (.slice e)) (hinfo:(P.info? e).map (fun i=>(i.zero,i.size,i.bytes))=some (some z,size,bytes)) (hzs:z.cells.size=size) (hsz:0<size)
  (v:Value) (n:Nat) (xs:List Value) (hs:a.eval s=v) (hown:w.ownsRow base e size v n xs)
  (cs:List Value) (t2:TypeId) (b2 c:Nat) (hx:a.eval x=.slice (some ⟨b2,0,none⟩) 1 c) (hb2:b2=w.heap.size) (hl:cs.length=size) (h1:∀ u ∈ cs,u.oneCell' = true)
  (h63:n+1≤maxLen) (hbytes:(n+1)*bytes≤140737488355328) (hbase:base≤w.heap.size)
  (h:∀ g cap w',w'.ownsRow base e size (.slice (some ⟨g,0,none⟩) (n+1) cap) (n+1) (xs ++ cs)→w.grownBy w' v.ownBlock→(v.ownBlock=some g∨w.heap.size≤g)→wpList P ops Q rest (a.put o.dst (.slice (some ⟨g,0,none⟩) (n+1) cap)) w') :
  wpList P ops Q (o :: rest) a (w.alloc (.cells cs.toArray t2)):=by
 obtain ⟨i,hi,hz,hsize,hby⟩:=info_parts hinfo;subst hb2;refine wpList_append_lies (w:=w.alloc (.cells cs.toArray t2)) hgd s x t ho base e i z size bytes ht hi hz hsize hby hzs hsz v n xs hs (hown.alloc _) ⟨w.heap.size,0,none⟩ 1 c cs hx o_ (q2g w cs t2) h1 o_ h63 hbytes (by simp;omega) _ rfl ?_
 intro g cap w' hown' hg hgx _;exact h g cap w' hown' ((World.grownBy_alloc w _ _).trans hg) (hgx.imp id (fun q=>by rw [q,World.size_alloc];omega))
section
variable {α:Type} {te tS:TypeId} {z:Nat} {enc:List α→List Value}
theorem q0g4 {size:Nat} (h:w.ownsRow base e size v n xs) (hb:base'≤base):w.ownsRow base' e size v n xs :=
 ⟨h.1,h.2.imp id fun ⟨g,cap,cur,hv,hg,r⟩=>⟨g,cap,cur,hv,Nat.le_trans hb hg,r⟩⟩
theorem Grps.weak {gs:List (List α)} (h:Grps w base te tS z enc ov vals gs) (hb:base'≤base):Grps w base' te tS z enc ov vals gs :=
 ⟨q0g4 h.out hb,fun j hj=>by
  obtain ⟨v,hv,ho⟩:=h.row j hj;exact ⟨v,hv,q0g4 ho hb⟩,h.dis,h.off⟩
theorem Grps.grown {r:Nat} {gs:List (List α)} (h:Grps w base te tS z enc ov vals gs) (hg:w.grownBy w' (some r)) (hr:r<base):Grps w' base te tS z enc ov vals gs :=
 ⟨q0g2 h.out fun b hq=>hg.block b (q0g1 h.out hq).2.1 (fun e=>by injection e with e;have:=(q0g1 h.out hq).1;omega),fun j hj=>by
  obtain ⟨v,hv,ho⟩:=h.row j hj;exact ⟨v,hv,q0g2 ho fun b hq=>hg.block b (q0g1 ho hq).2.1 (fun e=>by injection e with e;have:=(q0g1 ho hq).1;omega)⟩,h.dis,h.off⟩
end
def inten (H:List FC):Option FC:=H.find? fun f=>decide (f.at_=0)
theorem q0ep {α:Type} (p:α→Bool):∀ (l:List α),(idxOf p l<0∧l.find? p=none)∨∃ k:Nat,idxOf p l=k∧∃ hk:k<l.length,l.find? p=some l[k]
 | []=>Or.inl ⟨by unfold idxOf;decide,rfl⟩
 | a :: l=>by
  unfold idxOf
  by_cases h:p a=true
  ·rw [if_pos h]
   exact Or.inr ⟨0,rfl,s_,by rw [List.find?_cons_of_pos h];rfl⟩
  ·rw [if_neg h,List.find?_cons_of_neg h]
   rcases q0ep p l with ⟨h1,h2⟩ | ⟨k,h1,hk,h2⟩
   ·exact Or.inl ⟨by rw [if_pos h1];decide,h2⟩
   ·refine Or.inr ⟨k+1,?_,by simpa using hk,by rw [h2];rfl⟩
    rw [if_neg o_,h1];rfl
def loadQ (H:List FC) (l:List Am) (ch wa:Int):Rat:=match inten H with
 | none=>(wa:Rat)
 | some f=>valR (toldT l ch 0 f.ho).data.toList*((wa:Rat) / ((65535:Int):Rat))
def wattV (P:List PC) (x:Fx):Int:=match pcF P x.pr with
 | none=>0
 | some p=>p.wa
def phaseV (P:List PC) (X:List Fx) (k:Int):Int:=(X.filter fun x=>decide (x.ph=k)).foldl (fun s x=>s+wattV P x) 0
theorem q0g9 (P:List PC) (X:List Fx) (x:Fx) (k:Int):phaseV P (X ++ [x]) k=if x.ph=k then phaseV P X k+wattV P x else phaseV P X k:=by
 unfold phaseV;rw [List.filter_append]
 by_cases h:x.ph=k
 ·have e:[x].filter (fun x=>decide (x.ph=k))=[x]:=by simp [h]
  rw [if_pos h,e,List.foldl_append]
  rfl
 ·have e:[x].filter (fun x=>decide (x.ph=k))=[]:=by simp [h]
  rw [if_neg h,e,List.append_nil]
section
variable {α:Type}
def SegS (cf:α→α→Int) (a b:Nat) (d:List α):Prop:=∀ (i j:Nat) x y,a≤i→i<j→j<b→d[i]? = some x→d[j]? = some y→0≤cf y x
structure PI (a b:Nat) (d d':List α):Prop where
 len:d'.length=d.length
 out:∀ k,k<a∨b≤k→d'[k]? = d[k]?
 inn:∀ k,a≤k→k<b→∃ q,a≤q∧q<b∧d'[k]? = d[q]?
 perm:d'.Perm d
theorem PI.refl (a b:Nat) (d:List α):PI a b d d:=⟨rfl,fun _ _=>rfl,fun k h1 h2=>⟨k,h1,h2,rfl⟩,List.Perm.refl _⟩
theorem PI.trans {d d' d'':List α} (h:PI a b d d') (k:PI a b d' d''):PI a b d d'' :=
 ⟨k.len.trans h.len,fun i hi=>(k.out i hi).trans (h.out i hi),fun i h1 h2=>by
  obtain ⟨q,q1,q2,e⟩:=k.inn i h1 h2;obtain ⟨p,p1,p2,e'⟩:=h.inn q q1 q2;exact ⟨p,p1,p2,e.trans e'⟩,k.perm.trans h.perm⟩
theorem PI.wide {a' b':Nat} {d d':List α} (h:PI a b d d') (ha:a'≤a) (hb:b≤b'):PI a' b' d d' :=
 ⟨h.len,fun i hi=>h.out i o_,fun i h1 h2=>by
  by_cases hin:a≤i∧i<b
  ·obtain ⟨q,q1,q2,e⟩:=h.inn i hin.1 hin.2
   exact ⟨q,o_,o_,e⟩
  ·exact ⟨i,h1,h2,h.out i o_⟩,h.perm⟩
theorem q0i2 {d:List α} {x y:α} (hi:d[i]? = some x) (hj:d[j]? = some y) (k:Nat):((d.set i y).set j x)[k]? = if k=j then some x else if k=i then some y else d[k]?:=by
 have li:=(List.getElem?_eq_some_iff.1 hi).1;have lj:=(List.getElem?_eq_some_iff.1 hj).1
 by_cases h1:k=j
 ·subst h1
  rw [if_pos rfl,List.getElem?_set_self (by rw [List.length_set];exact lj)]
 ·rw [if_neg h1,List.getElem?_set_ne (fun e=>h1 e.symm)]
  by_cases h2:k=i
  ·subst h2
   rw [if_pos rfl,List.getElem?_set_self li]
  ·rw [if_neg h2,List.getElem?_set_ne (fun e=>h2 e.symm)]
theorem PI.swap {d:List α} {x y:α} (hi:d[i]? = some x) (hj:d[j]? = some y) (i0:a≤i) (i1:i<b) (j0:a≤j) (j1:j<b):PI a b d ((d.set i y).set j x):=by
 have li:=(List.getElem?_eq_some_iff.1 hi).1;have lj:=(List.getElem?_eq_some_iff.1 hj).1;have ei:=(List.getElem?_eq_some_iff.1 hi).2;have ej:=(List.getElem?_eq_some_iff.1 hj).2;refine ⟨by rw [List.length_set,List.length_set],fun k hk=>?_,fun k h1 h2=>?_,?_⟩
 ·rw [q0i2 hi hj,if_neg o_,if_neg o_]
 ·rw [q0i2 hi hj]
  by_cases e1:k=j
  ·exact ⟨i,i0,i1,by rw [if_pos e1,hi]⟩
  ·by_cases e2:k=i
   ·exact ⟨j,j0,j1,by rw [if_neg e1,if_pos e2,hj]⟩
   ·exact ⟨k,h1,h2,by rw [if_neg e1,if_neg e2]⟩
 ·have:=List.set_set_perm li lj
  rw [ei,ej] at this;exact this
def InsI (cf:α→α→Int) (a i j:Nat) (d:List α):Prop :=
 (∀ (p q:Nat) x y,a≤p→p<q→q≤i→p≠j→q≠j→d[p]? = some x→d[q]? = some y→0≤cf y x) ∧
 (∀ (q:Nat) x y,j<q→q≤i→d[j]? = some x→d[q]? = some y→0≤cf y x)
theorem InsI.start {cf:α→α→Int} {d:List α} (h:SegS cf a i d):InsI cf a i i d :=
 ⟨fun p q x y h1 h2 h3 h4 h5 hp hq=>h p q x y h1 h2 o_ hp hq,fun q x y h1 h2 _ _=>o_⟩
theorem InsI.stop {cf:α→α→Int} {d:List α} (hT:∀ x y z,0≤cf y x→0≤cf z y→0≤cf z x) (h:InsI cf a i j d) (hji:j≤i) (hs:j=a∨∃ x y,d[j]? = some x∧d[j-1]? = some y∧0≤cf x y) (haj:a≤j):SegS cf a (i+1) d:=by
 intro p q x y h1 h2 h3 hp hq
 by_cases e1:p=j
 ·subst e1
  exact h.2 q x y h2 o_ hp hq
 ·by_cases e2:q=j
  ·subst e2
   rcases hs with hs | ⟨u,v,hu,hv,hn⟩
   ·omega
   ·rw [hq] at hu
    injection hu with hu
    subst hu
    by_cases e3:p=q-1
    ·subst e3
     rw [hp] at hv
     injection hv with hv
     subst hv;exact hn
    ·exact hT x v y (h.1 p (q-1) x v h1 o_ o_ e1 o_ hp hv) hn
  ·exact h.1 p q x y h1 h2 o_ e1 e2 hp hq
theorem InsI.down {cf:α→α→Int} {d:List α} (hA:∀ x y,cf x y<0→0≤cf y x) (h:InsI cf a i j d) (haj:a<j) (hji:j≤i) {x y:α} (hx:d[j]? = some x) (hy:d[j-1]? = some y) (hlt:cf x y<0):InsI cf a i (j-1) ((d.set j y).set (j-1) x):=by
 refine ⟨fun p q u v h1 h2 h3 h4 h5 hp hq=>?_,fun q u v h1 h2 hp hq=>?_⟩
 ·rw [q0i2 hx hy,if_neg h4] at hp
  rw [q0i2 hx hy,if_neg h5] at hq
  by_cases e1:p=j
  ·rw [if_pos e1] at hp
   injection hp with hp
   subst hp;rw [if_neg o_] at hq
   exact h.1 (j-1) q _ v o_ o_ h3 o_ o_ hy hq
  ·rw [if_neg e1] at hp
   by_cases e2:q=j
   ·rw [if_pos e2] at hq
    injection hq with hq
    subst hq;exact h.1 p (j-1) u _ h1 o_ o_ o_ o_ hp hy
   ·rw [if_neg e2] at hq
    exact h.1 p q u v h1 h2 h3 e1 e2 hp hq
 ·rw [q0i2 hx hy,if_pos rfl] at hp
  injection hp with hp
  subst hp;rw [q0i2 hx hy,if_neg o_] at hq
  by_cases e2:q=j
  ·rw [if_pos e2] at hq
   injection hq with hq
   subst hq;exact hA _ _ hlt
  ·rw [if_neg e2] at hq
   exact h.2 q _ v o_ h2 hx hq
end
structure SR (w0:World) (B:Nat) (t:TypeId) (sp d:List Value) (w:World):Prop where
 gr:w0.grownBy w (some B)
 row:RowAt w B (d ++ sp).toArray t
theorem SR.cell (h:SR w0 B t sp d w) {x:Value} (hk:d[k]? = some x):w.cell? ⟨B,k,none⟩=some x:=by
 refine h.row.cell ?_
 have:=(List.getElem?_eq_some_iff.1 hk).1
 rw [List.getElem?_toArray,List.getElem?_append_left this];exact hk
theorem SR.fr (h:SR w0 B t sp d w) (k:Nat):w.frozen? ⟨B,k,none⟩=false:=h.row.fr k
theorem SR.set (h:SR w0 B t sp d w) (hk:k<d.length) (v:Value):SR w0 B t sp (d.set k v) (w.setCell ⟨B,k,none⟩ v):=by
 refine ⟨h.gr.trans ⟨rfl,rfl,rfl,s_,fun i _ hi=>?_⟩,?_⟩
 ·simp only [World.setCell,Array.getElem?_modify]
  rw [if_neg (fun e=>hi (by rw [← e]))]
 ·have:=h.row.set k v
  rw [List.setIfInBounds_toArray,List.set_append_left _ _ hk] at this;exact this
theorem SR.below (h:SR w0 B t sp d w) (hb:Below w.heap.size w w'):SR w0 B t sp d w' :=
 ⟨h.gr.trans ⟨hb.os,hb.tape,hb.output,hb.size,fun i hi _=>hb.block i hi⟩,h.row.below hb h.row.lt⟩
theorem SR.drewN (h:SR w0 B t sp d w) (n:Nat):SR w0 B t sp d (w.drewN n):=h.below (q18 (br_) n)
theorem SR.drew (h:SR w0 B t sp d w):SR w0 B t sp d w.drew:=h.below (br_).drew
theorem SR.swap (h:SR w0 B t sp d w) (hi:i<d.length) (hj:j<d.length) (x y:Value):SR w0 B t sp ((d.set i y).set j x) ((w.setCell ⟨B,i,none⟩ y).setCell ⟨B,j,none⟩ x) :=
 (h.set hi y).set (by rw [List.length_set];exact hj) x
theorem fx_one (a b d e f:Int) (s t:ByteArray):∀ u ∈ [Value.int .i64 a,.int .i64 b,.string s,.int .i64 d,.int .i64 e,.int .i64 f,.string t],u.oneCell' = true:=by simp;exact ⟨rfl,rfl,rfl,rfl,rfl,rfl,rfl⟩
end Go.Proofs.YtabhjdmmfdfpeaaGreatDoor
