/- Lemmas. -/
import Derived.Test.YtmcbkdlfhffphaaGreatDoorMUniK
import Derived.Sort.OwnSorted
namespace Go.Proofs.YtmcbkdlfhffphaaGreatDoor
set_option maxHeartbeats 32000000
set_option maxRecDepth 100000
open _root_.Go.Proofs.Tryz

section
open Go.RowKit
def chB (ch:Int) (x:Fx):Bool:=decide (x.ch=ch)
def partsN (X:List Fx) (ch:Int) (n:Nat):List Fx:=(List.range n).flatMap fun (k:Nat)=>X.filter fun x=>chB ch x && decide (x.pt=(k:Int)+1)
def partsL (X:List Fx) (ch:Int):List Fx:=partsN X ch 64
theorem q05d (X:List Fx) (ch:Int) (n:Nat):partsN X ch (n+1)=partsN X ch n ++ X.filter fun x=>chB ch x && decide (x.pt=(n:Int)+1):=by
 unfold partsN;rw [List.range_succ,List.flatMap_append];simp
theorem q05a {X:List Fx} {ch:Int} {n:Nat} {x:Fx}:x ∈ partsN X ch n↔x ∈ X∧x.ch=ch∧1≤x.pt∧x.pt≤(n:Int):=by
 unfold partsN chB;simp only [List.mem_flatMap,List.mem_filter,Bool.and_eq_true,decide_eq_true_eq]
 constructor
 ·rintro ⟨k,hk,hx,h1,h2⟩
  have hk:=List.mem_range.1 hk;exact ⟨hx,h1,by omega,by omega⟩
 ·rintro ⟨hx,h1,h2,h3⟩
  exact ⟨(x.pt-1).toNat,List.mem_range.2 (by omega),hx,h1,by omega⟩
theorem asc_eq {α:Type} (k:α→Int):∀ {l m:List α},l.Pairwise (fun x y=>k x<k y)→m.Pairwise (fun x y=>k x<k y)→(∀ x,x ∈ l↔x ∈ m)→l=m
 | [],[],_,_,_=>rfl
 | [],b :: m,_,_,h=>absurd ((h b).2 (List.mem_cons_self ..)) List.not_mem_nil
 | a :: l,[],_,_,h=>absurd ((h a).1 (List.mem_cons_self ..)) List.not_mem_nil
 | a :: l,b :: m,hl,hm,h=>by
  obtain ⟨l1,l2⟩:=List.pairwise_cons.1 hl;obtain ⟨m1,m2⟩:=List.pairwise_cons.1 hm;have hab:a=b:=by
   rcases List.mem_cons.1 ((h a).1 (List.mem_cons_self ..)) with e | e
   ·exact e
   ·rcases List.mem_cons.1 ((h b).2 (List.mem_cons_self ..)) with e2 | e2
    ·exact e2.symm
    ·have:=m1 a e
     have:=l1 b e2
     omega
  subst hab;rw [asc_eq k l2 m2 fun x=>⟨fun hx=>?_,fun hx=>?_⟩]
  ·rcases List.mem_cons.1 ((h x).1 (List.mem_cons_of_mem _ hx)) with e | e
   ·subst e;have:=l1 x hx;omega
   ·exact e
  ·rcases List.mem_cons.1 ((h x).2 (List.mem_cons_of_mem _ hx)) with e | e
   ·subst e;have:=m1 x hx;omega
   ·exact e
def OneP (X:List Fx):Prop:=X.Pairwise fun x y=>¬ (x.ch=y.ch∧x.pt=y.pt)
theorem q05g {P:List PC} {X:List Fx} (h:patE P X=0):OneP X∧∀ x ∈ X,1≤x.pt∧x.pt≤64:=by
 unfold patE at h
 by_cases h1:32<P.length∨64<X.length
 ·rw [if_pos h1] at h;cases h
 rw [if_neg h1] at h;have hf:=q89 h;refine ⟨?_,fun x hx=>?_⟩
 ·unfold OneP
  rw [List.pairwise_iff_getElem];intro i j hi hj hij hq;have h5:=(fx_ok (hf j hj)).2.1;rw [qa1 hj,List.any_eq_false] at h5;have hm:X[i] ∈ X.take j:=by rw [← List.getElem_take (j:=j) (h:=by rw [List.length_take];omega)];exact List.getElem_mem _
  have:=h5 _ hm
  unfold sameP at this;simp [hq.1,hq.2] at this
 ·obtain ⟨i,hi,rfl⟩:=List.getElem_of_mem hx
  have h5:=(fx_ok (hf i hi)).1.1;rw [qa1 hi] at h5;unfold qkt at h5;simp only [Bool.and_eq_true,decide_eq_true_eq] at h5;exact h5.1.1.1.2
theorem q05e {X:List Fx} (h:OneP X) (ch:Int):∀ n,(partsN X ch n).Pairwise fun x y=>x.pt<y.pt
 | 0=>by show List.Pairwise _ [];exact List.Pairwise.nil
 | n+1=>by
  rw [q05d];refine List.pairwise_append.2 ⟨q05e h ch n,?_,fun x hx y hy=>?_⟩
  ·have h2:(X.filter fun x=>chB ch x && decide (x.pt=(n:Int)+1)).Pairwise fun x y=>¬ (x.ch=y.ch∧x.pt=y.pt):=List.Pairwise.filter _ h
   refine List.Pairwise.imp_of_mem (fun {x y} hx hy hn=>?_) h2
   exfalso
   have hx:=(List.mem_filter.1 hx).2;have hy:=(List.mem_filter.1 hy).2;unfold chB at hx hy;simp only [Bool.and_eq_true,decide_eq_true_eq] at hx hy;exact hn ⟨hx.1.trans hy.1.symm,hx.2.trans hy.2.symm⟩
  ·have:=(q05a.1 hx).2.2.2
   have hy:=(List.mem_filter.1 hy).2;simp only [Bool.and_eq_true,decide_eq_true_eq] at hy;omega
theorem q05u {X d:List Fx} (h:OneP X) (hr:∀ x ∈ X,1≤x.pt∧x.pt≤64) {ch:Int} (hp:d.Perm (X.filter (chB ch))) (hs:d.Pairwise fun x y=>x.pt≤y.pt):d=partsL X ch:=by
 have h2:(X.filter (chB ch)).Pairwise fun x y=>x.pt≠y.pt:=by
  refine List.Pairwise.imp_of_mem (fun {x y} hx hy hn=>?_) (List.Pairwise.filter (chB ch) h)
  have hx:=(List.mem_filter.1 hx).2;have hy:=(List.mem_filter.1 hy).2;unfold chB at hx hy;intro e;exact hn ⟨(of_decide_eq_true hx).trans (of_decide_eq_true hy).symm,e⟩
 have h3:d.Pairwise fun x y=>x.pt≠y.pt:=(hp.pairwise_iff (R:=fun x y=>x.pt≠y.pt) fun e=>fun q=>e q.symm).2 h2
 refine asc_eq (fun x=>x.pt) ?_ (q05e h ch 64) fun x=>?_
 ·rw [List.pairwise_iff_getElem] at hs h3 ⊢
  intro i j hi hj hij
  have:=hs i j hi hj hij
  have:=h3 i j hi hj hij
  omega
 ·rw [hp.mem_iff,List.mem_filter]
  refine Iff.trans ?_ q05a.symm;unfold chB;rw [decide_eq_true_eq];exact ⟨fun q=>⟨q.1,q.2,(hr x q.1).1,(hr x q.1).2⟩,fun q=>⟨q.1,q.2.1⟩⟩
theorem q05f {X:List Fx} (h:OneP X) (hr:∀ x ∈ X,1≤x.pt∧x.pt≤64) (ch:Int):(partsL X ch).length≤X.length:=by
 have hp:=List.mergeSort_perm (X.filter (chB ch)) (fun x y=>decide (x.pt≤y.pt))
 have hs:=List.pairwise_mergeSort (le:=fun x y:Fx=>decide (x.pt≤y.pt)) (fun a b c h1 h2=>by simp only [decide_eq_true_eq] at *;omega) (fun a b=>by simp only [Bool.or_eq_true,decide_eq_true_eq];omega) (X.filter (chB ch))
 rw [← q05u h hr hp (hs.imp fun {x y} q=>by simpa using q),List.length_mergeSort]
 exact List.length_filter_le ..
def hitP (PL:List (PC × List Fea)) (at_:Int) (x:Fx):Option (Fx × Fea):=((featV PL x.pr).find? fun f=>decide (f.at_=at_)).map fun f=>(x,f)
def havV (PL:List (PC × List Fea)) (X:List Fx) (ch at_:Int):Option (Fx × Fea):=(partsL X ch).findSome? (hitP PL at_)
theorem q050 {PL:List (PC × List Fea)} {X:List Fx} {ch at_:Int} {x:Fx} {f:Fea} (h:havV PL X ch at_=some (x,f)):x ∈ X∧x.ch=ch∧f ∈ featV PL x.pr∧f.at_=at_:=by
 unfold havV at h;obtain ⟨y,hy,hq⟩:=List.exists_of_findSome?_eq_some h;unfold hitP at hq;obtain ⟨g,hg,e⟩:=Option.map_eq_some_iff.1 hq
 injection e with e1 e2
 subst e1 e2
 have:=q05a.1 hy
 exact ⟨this.1,this.2.1,List.mem_of_find?_eq_some hg,by simpa using List.find?_some hg⟩
def rawUE (L:List (List PT)) (PL:List (PC × List Fea)) (X:List Fx) (l:List Fm) (ch at_:Int):Int :=
 if uniE L PL X≠0 then uniE L PL X else if rightE l≠0 then rightE l else if paramE ch at_≠0 then paramE ch at_ else
  match havV PL X ch at_ with
  | none=>6
  | some (x,_)=>if plI l x.un<0 then 6 else 0
def rawUV (L:List (List PT)) (PL:List (PC × List Fea)) (X:List Fx) (l:List Fm) (ch at_:Int):Int :=
 if rawUE L PL X l ch at_≠0 then 0 else
  match havV PL X ch at_ with
  | none=>0
  | some (x,f)=>shV (pgOf l x.un) x.ad f
end

section
open Go.RowKit
theorem q056:(prog.info? 36).map (fun i=>(i.zero,i.size,i.bytes))=some (some (.agg #[.int .i64 0,.int .i64 0,.string ⟨#[]⟩,.int .i64 0,.int .i64 0,.int .i64 0,.string ⟨#[]⟩]),7,72):=by kernel_rfl
theorem q04x (l:List Fx):∀ u ∈ shX.vs l,u.oneCell' = true:=by
 intro u hu;simp only [Sh.vs,List.mem_flatMap] at hu;obtain ⟨r,_,h⟩:=hu;exact shX.one r u h
theorem q04w (l:List Fx):(shX.vs l).length=l.length*7:=shX.vs_length l
theorem q05b {w:World} {base:Nat} {e:TypeId} {z:Nat} {g n c:Nat} {xs:List Value} (h:w.ownsRow base e z (.slice (some ⟨g,0,none⟩) n c) n xs):Cells w g xs:=by
 obtain ⟨cur,hc⟩:=qfr h;have hR:RowAt w g cur e:=hc;exact ⟨hR.lt,fun j u hu=>⟨by
  have q:=h.cells (g:=g) rfl j u hu;unfold Addr.add at q
  split at q <;> simp_all,hR.fr j⟩⟩
theorem q04m (A:Option Addr) (n c:Nat) (l:List Fx) (w:World) (hl:shX.In w A n l) (hn:n≤100) :
  Calls prog 28 #[.slice A n c] w fun e w'=>∃ v',e=.returned v'∧w'.ownsRow w.heap.size 36 7 v' n (shX.vs l)∧Below w.heap.size w w':=by
 obtain ⟨i0,hi,hz0,hzz1,hz2⟩:=info_parts q056;have q22:∀ (w:World) (a:Option Addr) (n c n' c':Nat),(binOp .eql 24 (.slice a n c) (.slice none n' c')).run prog w=.ok (.bool a.isNone) w:=fun w a n c n' c'=>Lib.run_eql_slice_nil w _ _ a n c n' c' underlying24
 cases A with
 | none =>
  obtain rfl:l=[]:=by
   match l,hl with
   | [],_=>rfl
   | a :: t,hl=>obtain ⟨b,o,e,_⟩:=hl.at_ (by simp);cases e
  obtain ⟨rfl,_⟩:=hl;clear hi hz0 hzz1 hz2
  go_enter func28,ntmps28
  go_wp2;go_ret;exact ⟨_,rfl,World.ownsRow_nil _ _ _ _,br_⟩
 | some a =>
  have hlen:(shX.vs l).length=n*7:=by rw [shX.vs_length,← hl.1];rfl
  have hnews:Hid (∀ j u,(shX.vs l)[j]? = some u→w.cell? (a.add j)=some u):=hj_ (fun j u hu=>by
   have hlt:j<(shX.vs l).length:=(List.getElem?_eq_some_iff.1 hu).1;obtain ⟨b,o,e,hb,hc⟩:=hl.2.2 (by omega)
   injection e with e
   subst e
   have:=hc j u hu
   rwa [show ((⟨b,o,none⟩:Addr).add j)=⟨b,o+j,none⟩ by unfold Addr.add;split <;> simp_all])
  have hone:=q04x l;generalize shX.vs l=L at *;clear hl
  go_enter func28,ntmps28
  go_wp2_with (at_builtin;refine wpList_append_own _ rfl _ _ 24 rfl w.heap.size 36 i0 _ 7 72 underlying24 hi hz0 hzz1 hz2 rfl (by decide) _ _ _ rfl (World.ownsRow_made w #[] 0 (Nat.le_refl _) (Nat.zero_le _) (by simp)) a n c L rfl hlen (fun j u hj=>Lib.cell?_alloc_some _ (hnews.out j u hj)) hone (by unfold maxLen;omega) (by omega) (by simp) ?_)
  intro v' w1 hown hgrow hnil;clear hnil;go_wp2;go_ret;refine ⟨v',rfl,by simpa using hown,?_⟩
  exact ((Below.refl _ w).alloc (Nat.le_refl _) _).grown hgrow (by simp) (by intro k hk;simp [Value.ownBlock] at hk;omega)
theorem q074:∀ (l:List Fx) (k:Nat) (_:k<l.length) (ch pt:Int) (pr:ByteArray) (un ad ph:Int) (cb:ByteArray),(((((((shX.vs l).set (k*7) (.int .i64 ch)).set (k*7+1) (.int .i64 pt)).set (k*7+2) (.string pr)).set (k*7+3) (.int .i64 un)).set (k*7+4) (.int .i64 ad)).set (k*7+5) (.int .i64 ph)).set (k*7+6) (.string cb)=shX.vs (l.set k ⟨ch,pt,pr,un,ad,ph,cb⟩)
 | a :: t,0,_,_,_,_,_,_,_,_=>rfl
 | a :: t,k+1,h,ch,pt,pr,un,ad,ph,cb=>by
  have ih:=q074 t k (by simpa using h) ch pt pr un ad ph cb
  show (((((((Value.int .i64 a.ch :: .int .i64 a.pt :: .string a.pr :: .int .i64 a.un :: .int .i64 a.ad :: .int .i64 a.ph :: .string a.cb :: shX.vs t).set ((k+1)*7) _).set ((k+1)*7+1) _).set ((k+1)*7+2) _).set ((k+1)*7+3) _).set ((k+1)*7+4) _).set ((k+1)*7+5) _).set ((k+1)*7+6) _=.int .i64 a.ch :: .int .i64 a.pt :: .string a.pr :: .int .i64 a.un :: .int .i64 a.ad :: .int .i64 a.ph :: .string a.cb :: shX.vs (t.set k ⟨ch,pt,pr,un,ad,ph,cb⟩)
  rw [show (k+1)*7=k*7+1+1+1+1+1+1+1 by omega,show k*7+1+1+1+1+1+1+1+2=k*7+2+1+1+1+1+1+1+1 by omega,show k*7+1+1+1+1+1+1+1+3=k*7+3+1+1+1+1+1+1+1 by omega,show k*7+1+1+1+1+1+1+1+4=k*7+4+1+1+1+1+1+1+1 by omega,show k*7+1+1+1+1+1+1+1+5=k*7+5+1+1+1+1+1+1+1 by omega,show k*7+1+1+1+1+1+1+1+6=k*7+6+1+1+1+1+1+1+1 by omega]
  simp only [List.set_cons_succ];rw [ih]
theorem q04l (w:World) (b o m:Nat) (hm:0<m) (hc:∀ j,j<m*7→(w.cell? ⟨b,o+j,none⟩).isSome=true) (hf:∀ j,j<m*7→w.frozen? ⟨b,o+j,none⟩=false) :
  ∃ Z:List Value,Z.length=m*7∧∀ (ty:TypeId) (c:Nat),(Builtin.clear_ #[24] ty #[.slice (some ⟨b,o,none⟩) m c]).run prog w=.ok (.tuple #[]) (w.setCells b o Z):=by
 have hv:∀ w,(zeroValue 36).run prog w=.ok (.agg #[.int .i64 0,.int .i64 0,.string ⟨#[]⟩,.int .i64 0,.int .i64 0,.int .i64 0,.string ⟨#[]⟩]) w:=fun w=>by kernel_rfl
 obtain ⟨Z,hZ⟩:∃ Z,Z=(Builtin.zeroCells (Value.cells (.agg #[.int .i64 0,.int .i64 0,.string ⟨#[]⟩,.int .i64 0,.int .i64 0,.int .i64 0,.string ⟨#[]⟩])) m).toList:=⟨_,rfl⟩;have hcs:Value.cells (.agg #[.int .i64 0,.int .i64 0,.string ⟨#[]⟩,.int .i64 0,.int .i64 0,.int .i64 0,.string ⟨#[]⟩])=#[.int .i64 0,.int .i64 0,.string ⟨#[]⟩,.int .i64 0,.int .i64 0,.int .i64 0,.string ⟨#[]⟩]:=by kernel_rfl
 have hlen:Z.length=m*7:=by
  rw [hZ,hcs];unfold Builtin.zeroCells;simp
 have hone:∀ v ∈ Z,v.oneCell' = true:=by
  intro v hv';rw [hZ,hcs] at hv';unfold Builtin.zeroCells at hv';simp only [Array.toList_map,List.mem_map] at hv';obtain ⟨i,-,rfl⟩:=hv';have h7:i % 7<7:=Nat.mod_lt _ (by omega)
  show ((#[Value.int .i64 0,.int .i64 0,.string ⟨#[]⟩,.int .i64 0,.int .i64 0,.int .i64 0,.string ⟨#[]⟩]:Array Value)[i % 7]!).oneCell' = true
  generalize i % 7=r at *
  match r,h7 with
  | 0,_=>rfl
  | 1,_=>rfl
  | 2,_=>rfl
  | 3,_=>rfl
  | 4,_=>rfl
  | 5,_=>rfl
  | 6,_=>rfl
 refine ⟨Z,hlen,fun ty c=>?_⟩
 have hst:=run_storeCells_cells (P:=prog) b o Z 0 w (by rw [hlen];simpa using hc) (by rw [hlen];simpa using hf) hone
 simp only [Nat.add_zero] at hst
 match m,hm with
 | m+1,_=>simp [Builtin.clear_,run_underlying underlying24,hv,← hZ,hst]
theorem q055 {α:Type} {p:α→Bool}:∀ {l:List α} {k:Nat},idxOf p l=k→∀ i (h:i<l.length),i<k→p l[i]=false
 | [],_,_,i,h,_=>absurd h (Nat.not_lt_zero _)
 | a :: l,k,h,i,hi,hik=>by
  rw [idxOf] at h
  cases ha:p a with
  | true=>rw [ha,if_pos rfl] at h;omega
  | false =>
   rw [ha,if_neg Bool.false_ne_true] at h
   match i,hi with
   | 0,_=>exact ha
   | i+1,hi =>
    by_cases h2:idxOf p l<0
    ·rw [if_pos h2] at h;omega
    ·rw [if_neg h2] at h
     obtain ⟨m,hm⟩:∃ m:Nat,idxOf p l=m:=⟨(idxOf p l).toNat,by omega⟩
     exact q055 hm i (by simpa using hi) (by omega)
structure Going (p:Fx→Bool) (l cur:List Fx) (i j:Nat):Prop where
 lt:i<j
 len:cur.length=l.length
 kept:cur.take i=(l.take j).filter fun x=>!p x
 rest:cur.drop j=l.drop j
theorem Going.at_ {p:Fx→Bool} {l cur:List Fx} {i j:Nat} (h:Going p l cur i j) (hj:j<l.length) (hj':j<cur.length):cur[j]=l[j]:=by
 have:=h.rest
 rw [List.drop_eq_getElem_cons hj',List.drop_eq_getElem_cons hj] at this
 injection this
theorem Going.tail {p:Fx→Bool} {l cur:List Fx} {i j:Nat} (h:Going p l cur i j) (hj:j<l.length):cur.drop (j+1)=l.drop (j+1):=by
 have:=h.rest
 rw [List.drop_eq_getElem_cons (by rw [h.len];exact hj),List.drop_eq_getElem_cons hj] at this
 injection this
theorem Going.skip {p:Fx→Bool} {l cur:List Fx} {i j:Nat} (h:Going p l cur i j) (hj:j<l.length) (hp:p l[j]=true):Going p l cur i (j+1) :=
 ⟨Nat.lt_succ_of_lt h.lt,h.len,by rw [List.take_succ_eq_append_getElem hj,List.filter_append,h.kept];simp [hp],h.tail hj⟩
theorem Going.keep {p:Fx→Bool} {l cur:List Fx} {i j:Nat} (h:Going p l cur i j) (hj:j<l.length) (hp:p l[j]=false):Going p l (cur.set i l[j]) (i+1) (j+1):=by
 have hi:i<cur.length:=by have:=h.lt;have:=h.len;omega
 refine ⟨Nat.succ_lt_succ h.lt,by rw [List.length_set];exact h.len,?_,?_⟩
 ·rw [List.take_succ_eq_append_getElem hj,List.filter_append,← h.kept,List.take_succ_eq_append_getElem (by rw [List.length_set];exact hi),List.take_set_of_le (Nat.le_refl i)]
  simp [hp]
 ·rw [List.drop_set_of_lt (by have:=h.lt;omega)]
  exact h.tail hj
theorem Going.start {p:Fx→Bool} {l:List Fx} {k:Nat} (hk:k<l.length) (hp:p l[k]=true) (hb:∀ i (h:i<l.length),i<k→p l[i]=false):Going p l l k (k+1):=by
 refine ⟨Nat.lt_succ_self k,rfl,?_,rfl⟩;rw [List.take_succ_eq_append_getElem hk,List.filter_append,List.filter_eq_self.2 (fun x hx=>?_)]
 ·simp [hp]
 ·obtain ⟨i,hi,rfl⟩:=List.getElem_of_mem hx
  rw [List.length_take] at hi;rw [List.getElem_take,hb i (by omega) (by omega)]
  rfl
theorem q04n (gf:Nat) (cb:Array Value) (p:Fx→Bool) (base g cap:Nat) (l:List Fx) (w:World) (eg:∀ args w,(callFunc gf args).run prog w=.ok (.enter gf args) w)
  (hown:w.ownsRow base 36 7 (.slice (some ⟨g,0,none⟩) l.length cap) l.length (shX.vs l)) (hn:l.length≤100) (hbs:base≤w.heap.size)
  (hf:∀ (x:Fx) (W:World),Below base w W→Calls prog gf (#[x.val] ++ cb) W fun e w'=>e=.returned (.bool (p x))∧Below W.heap.size W w') :
  Calls prog 115 #[.slice (some ⟨g,0,none⟩) l.length cap,.func (.func gf) #[] cb] w fun e w'=>e=.returned (.slice (some ⟨g,0,none⟩) (l.filter fun x=>!p x).length cap)∧Cells w' g (shX.vs (l.filter fun x=>!p x))∧Below base w w':=by
 have hIx:=qbo gf cb p (some ⟨g,0,none⟩) l.length cap l w eg (Sh.In.of_own hown rfl) (by omega) (fun i h W hB=>hf l[i] W (hB.mono hbs))
 have hcap:=qft hown;have HO:=hj_ hown;have HF:=hj_ hf;have HS:=hj_ hbs;have hlt:=qbb (p:=p) l;have hge:=qb9 (p:=p) l
 by_cases h0:idxOf p l<0
 ·have hall:∀ i (h:i<l.length),p l[i]=false:=fun i hi=>by
   cases hp:p l[i] with
   | false=>rfl
   | true=>exact absurd h0 (q012 (List.getElem_mem hi) hp)
  have hfil:(l.filter fun x=>!p x)=l:=List.filter_eq_self.2 (fun x hx=>by
   obtain ⟨i,hi,rfl⟩:=List.getElem_of_mem hx;rw [hall i hi]
   rfl)
  rw [hfil];rw [show idxOf p l=-1 by omega] at hIx
  have HIx:=hj_ hIx;clear hIx hall hfil hown hf hlt hge h0 hbs
  go_enter func115,ntmps115
  go_wp2_with fail;refine HIx.out.mono ?_;rintro e wk ⟨rfl,hb⟩;go_wp2_with fail;go_ret;exact ⟨rfl,q05b (qfq HO.out hb),hb.mono HS.out⟩
 ·obtain ⟨k,hk⟩:∃ k:Nat,idxOf p l=k:=⟨(idxOf p l).toNat,by omega⟩
  have hkl:k<l.length:=by omega
  have hpk:p l[k]=true:=qba hkl hk;have hbef:∀ i (h:i<l.length),i<k→p l[i]=false:=fun i hi hik=>q055 hk i hi hik
  have HG:=hj_ (Going.start hkl hpk hbef);rw [hk] at hIx;have HIx:=hj_ hIx;have g1:((k:Int) == -1)=false:=by rw [beq_eq_false_iff_ne];omega
  have w1:IntKind.i64.wrap ((k:Int)+1)=(k:Int)+1:=IntWalk.i64_in _ (by omega)
  have HN:=hj_ hn;have HCp:=hj_ hcap;clear hIx hown hf hlt hge h0 hbs hpk hbef hk hcap hn
  go_enter func115,ntmps115
  go_wp2_with fail;refine HIx.out.mono ?_;rintro e wk ⟨rfl,hb⟩;have HOk:=hj_ (qfq HO.out hb);have HBk:=hj_ (hb.mono HS.out);clear hb;go_wp2_with fail
  go_loopw [5,6] (fun iv jv wr=>∃ (i j:Nat) (cur:List Fx),j≤l.length∧iv=.int .i64 i∧jv=.int .i64 j∧Going p l cur i j∧wr.ownsRow base 36 7 (.slice (some ⟨g,0,none⟩) l.length cap) l.length (shX.vs cur)∧Below base w wr) (fun _ jv _=>l.length-(intOf jv).toNat)
  case atStart=>exact ⟨k,k+1,l,hkl,rfl,by go_num,HG.out,HOk.out,HBk.out⟩
  case round =>
   obtain ⟨i,j,cur,hj,rfl,rfl,hgo,hown,hB⟩:=hrel;have HGo:=hj_ hgo;have HOr:=hj_ hown;have HBr:=hj_ hB;have hij:=hgo.lt;have hcl:=hgo.len;have hcap:=HCp.out;have hbg:=(hown.lt _ rfl).1;have hgl:=(hown.lt _ rfl).2
   by_cases hlt:j<l.length
   case neg =>
    obtain rfl:j=l.length:=by omega
    have hfil:(l.filter fun x=>!p x)=cur.take i:=by rw [hgo.kept,List.take_length]
    have hC:=q05b hown;have hvl:=q04w cur;obtain ⟨Z,hZ,hrun⟩:=q04l wr g (i*7) (l.length-i) (by omega) (fun q hq=>by
     rw [hC.at_ (List.getElem?_eq_getElem (by omega))]
     rfl) (fun q hq=>hC.fr (List.getElem?_eq_getElem (show i*7+q<(shX.vs cur).length by omega)))
    have hti:(cur.take i).length=i:=by rw [List.length_take];omega
    have HP:=hj_ (show Cells (wr.setCells g (i*7) Z) g (shX.vs (cur.take i))∧Below base w (wr.setCells g (i*7) Z) from by
     have hgr:=qah wr g (i*7) Z;refine ⟨⟨Nat.lt_of_lt_of_le hgl hgr.size,fun q u hu=>?_⟩,hB.grown hgr (Nat.le_trans HS.out hB.size) (fun q e=>by cases e;exact hbg)⟩
     have hq:q<i*7:=by
      have:=(List.getElem?_eq_some_iff.1 hu).1
      rw [q04w,hti] at this;exact this
     have hu2:(shX.vs cur)[q]? = some u:=by
      have e:shX.vs cur=shX.vs (cur.take i) ++ shX.vs (cur.drop i):=by rw [← Sh.vs_append,List.take_append_drop]
      rw [e,List.getElem?_append_left (by rw [q04w,hti];exact hq)]
      exact hu
     exact ⟨(World.cell?_setCells_out g _ _ _ _ (fun _ _=>.inl (by show q<i*7;exact hq))).trans (hC.at_ hu2),(World.frozen?_setCells ..).trans (hC.fr hu2)⟩)
    have HFi:=hj_ (And.intro hfil hti);have i0:(0:Int)≤(i:Int):=by omega
    have i1:(i:Int)≤(l.length:Int):=by omega
    have i2:(i:Int)≤(cap:Int):=by omega
    have i3:¬ cap=i:=by omega
    have i4:(l.length:Int)≤(cap:Int):=by omega
    clear hfil hC hvl hZ hti hgo hown hB hij hcl hcap;go_wp2_with fail;go_ret;exact ⟨by rw [HFi.out.1,HFi.out.2];rfl,by rw [HFi.out.1];exact HP.out.1,HP.out.2⟩
   case pos =>
    have hx:=hgo.at_ hlt (by omega)
    obtain ⟨b,o,e,-,hcell⟩:=fx_at (Sh.In.of_own (S:=shX) hown hcl.symm) (by omega)
    injection e with e
    injection e with e1 e2
    subst e1 e2;have hc:=hcell j (by omega)
    rw [hx] at hc;have HSk:=hj_ (fun hp=>hgo.skip hlt hp)
    have HKe:=hj_ (fun hp=>hgo.keep hlt hp)
    have hil:i<cur.length:=by omega
    have HIl:=hj_ hil;clear hcell hx hgo;generalize l[j]=x at *;generalize hpx:p x=px at *;obtain ⟨ch,pt,pr,un,ad,ph,cbl⟩:=x;obtain ⟨k0,k1,k2,k3,k4,k5,k6⟩:=hc;rw [Nat.zero_add] at k0 k1 k2 k3 k4 k5 k6;dsimp only at k0 k1 k2 k3 k4 k5 k6;obtain ⟨W1,hW1⟩:∃ W1,W1=wr.alloc (.cells #[.int .i64 ch,.int .i64 pt,.string pr,.int .i64 un,.int .i64 ad,.int .i64 ph,.string cbl] 36):=⟨_,rfl⟩;have hb1:Below wr.heap.size wr W1:=by rw [hW1];exact (br_).alloc (Nat.le_refl _) _
    have HX1:=hj_ (show Cells W1 wr.heap.size [.int .i64 ch,.int .i64 pt,.string pr,.int .i64 un,.int .i64 ad,.int .i64 ph,.string cbl] by rw [hW1];exact Cells.fresh wr [.int .i64 ch,.int .i64 pt,.string pr,.int .i64 un,.int .i64 ad,.int .i64 ph,.string cbl] _)
    have HB1:=hj_ (hB.trans (hb1.mono (Nat.le_trans HS.out hB.size)));have HO1:=hj_ (qfq HOr.out hb1);have hdel:=HF.out ⟨ch,pt,pr,un,ad,ph,cbl⟩ W1 HB1.out;rw [hpx] at hdel;have HDel:=hj_ (show Calls prog gf (#[.agg #[.int .i64 ch,.int .i64 pt,.string pr,.int .i64 un,.int .i64 ad,.int .i64 ph,.string cbl]] ++ cb) W1 fun e w'=>e=.returned (.bool px)∧Below W1.heap.size W1 w' from hdel)
    have HW1:=hj_ hW1;have i0:(0:Int)≤(i:Int):=by omega
    have i1:(i:Int)<(l.length:Int):=by omega
    have j0:(0:Int)≤(j:Int):=by omega
    have j1:(j:Int)<(l.length:Int):=by omega
    have w2:IntKind.i64.wrap ((j:Int)+1)=(j:Int)+1:=IntWalk.i64_in _ (by have:=HN.out;omega)
    have w3:IntKind.i64.wrap ((i:Int)+1)=(i:Int)+1:=IntWalk.i64_in _ (by have:=HN.out;omega)
    have hJl:=hj_ hlt;clear hW1 hb1 hdel hown hB hpx hij hcl hcap
    cases px with
    | true =>
     go_wp2_with fail;rw [← HW1.out]
     go_at_fn gf
     refine HDel.out.mono ?_;rintro e w2' ⟨rfl,hb⟩;have HO2:=hj_ (qfq HO1.out hb);have HB2:=hj_ (HB1.out.trans (hb.mono (Nat.le_trans HS.out HB1.out.size)));clear hb k0 k1 k2 k3 k4 k5 k6;go_wp2_with fail
     go_roundw
     case rel=>exact ⟨i,j+1,cur,hJl.out,rfl,by go_num,HSk.out trivial,HO2.out,HB2.out⟩
     case measure=>simp [intOf];omega
    | false =>
     go_wp2_with fail;rw [← HW1.out]
     go_at_fn gf
     refine HDel.out.mono ?_;rintro e w2' ⟨rfl,hb⟩;have HO2:=hj_ (qfq HO1.out hb);have HB2:=hj_ (HB1.out.trans (hb.mono (Nat.le_trans HS.out HB1.out.size)));have hX2:=HX1.out.below hb HX1.out.1;have x0:=hX2.at_ (j:=0) rfl
     have x1:=hX2.at_ (j:=1) rfl
     have x2:=hX2.at_ (j:=2) rfl
     have x3:=hX2.at_ (j:=3) rfl
     have x4:=hX2.at_ (j:=4) rfl
     have x5:=hX2.at_ (j:=5) rfl
     have x6:=hX2.at_ (j:=6) rfl
     have f0:=HO2.out.frozenAt (i*7);have f1:=HO2.out.frozenAt (i*7+1);have f2:=HO2.out.frozenAt (i*7+2);have f3:=HO2.out.frozenAt (i*7+3);have f4:=HO2.out.frozenAt (i*7+4);have f5:=HO2.out.frozenAt (i*7+5);have f6:=HO2.out.frozenAt (i*7+6);have hC2:=q05b HO2.out;obtain ⟨b,o,e,-,hcell⟩:=fx_at (Sh.In.of_own (S:=shX) HO2.out (HGo.out.len.symm)) (by have:=HIl.out;omega)
     injection e with e
     injection e with e1 e2
     subst e1 e2;obtain ⟨q0,q1,q2,q3,q4,q5,q6⟩:=hcell i HIl.out;rw [Nat.zero_add] at q0 q1 q2 q3 q4 q5 q6;have hgl2:=hC2.1;clear hb k0 k1 k2 k3 k4 k5 k6 hcell hX2 hC2;go_wp2_with fail
     go_roundw
     case rel =>
      have h1:=(HO2.out.stored (i*7) (.int .i64 ch)).1;have h2:=(h1.stored (i*7+1) (.int .i64 pt)).1;have h3:=(h2.stored (i*7+2) (.string pr)).1;have h4:=(h3.stored (i*7+3) (.int .i64 un)).1;have h5:=(h4.stored (i*7+4) (.int .i64 ad)).1;have h6:=(h5.stored (i*7+5) (.int .i64 ph)).1;have h7:=(h6.stored (i*7+6) (.string cbl)).1;rw [q074 cur i HIl.out] at h7;have hb7:=((((((HB2.out.setCell (p:=⟨g,i*7,none⟩) hbg (.int .i64 ch)).setCell (p:=⟨g,i*7+1,none⟩) hbg (.int .i64 pt)).setCell (p:=⟨g,i*7+2,none⟩) hbg (.string pr)).setCell (p:=⟨g,i*7+3,none⟩) hbg (.int .i64 un)).setCell (p:=⟨g,i*7+4,none⟩) hbg (.int .i64 ad)).setCell (p:=⟨g,i*7+5,none⟩) hbg (.int .i64 ph)).setCell (p:=⟨g,i*7+6,none⟩) hbg (.string cbl);exact ⟨i+1,j+1,_,hJl.out,by go_num,by go_num,HKe.out trivial,h7,hb7⟩
     case measure=>simp [intOf];omega
end

section
open Go.RowKit Go.Sort
theorem q04v {α:Type} [Inhabited α] {enc:α→List Value} {k:Nat} (hk:∀ x,(enc x).length=k):∀ (l:List α) (j:Nat),j<l.length*k→(l.flatMap enc)[j]? = some ((enc l[j / k]!)[j % k]!)
 | [],j,h=>by simp at h
 | a :: l,j,h=>by
  have hk0:0<k:=by
   rcases Nat.eq_zero_or_pos k with e | e
   ·subst e;simp at h
   ·exact e
  rw [List.flatMap_cons]
  by_cases hj:j<k
  ·rw [List.getElem?_append_left (by rw [hk];exact hj),Nat.div_eq_of_lt hj,Nat.mod_eq_of_lt hj]
   have hl:j<(enc a).length:=by rw [hk];exact hj
   rw [List.getElem?_eq_getElem hl];simp [hl]
  ·have e1:j / k=(j-k) / k+1:=by rw [Nat.div_eq_sub_div hk0 (by omega)]
   have e2:j % k=(j-k) % k:=Nat.mod_eq_sub_mod (by omega)
   have e3:l.length*k+k=(a :: l).length*k:=by rw [List.length_cons,Nat.add_mul,Nat.one_mul]
   rw [List.getElem?_append_right (by rw [hk];omega),hk,q04v hk l (j-k) (by omega),e1,e2]
   simp
theorem q053 {α:Type} [Inhabited α] {enc:α→List Value} {k:Nat} (hk:∀ x,(enc x).length=k) {w:World} {g:Nat} {l:List α} (h:Cells w g (l.flatMap enc)):HoldsK enc k w g 0 l.toArray:=by
 intro j hj;rw [size_flatK] at hj;have hj':j<l.length*k:=by simpa using hj
 obtain ⟨h1,h2⟩:=h.2 j _ (q04v hk l j hj');rw [Nat.zero_add,get_flatK _ _ _ _ hj];refine ⟨?_,h2⟩;rw [h1];simp
theorem q04k {α:Type} [Inhabited α] {enc:α→List Value} {k:Nat} (hk:∀ x,(enc x).length=k) {w:World} {g:Nat} {d:Array α} (h:HoldsK enc k w g 0 d) (hg:g<w.heap.size):Cells w g (d.toList.flatMap enc):=by
 refine ⟨hg,fun j u hu=>?_⟩
 have hlen:∀ l:List α,(l.flatMap enc).length=l.length*k:=by
  intro l
  induction l with
  | nil=>simp
  | cons a l ih=>rw [List.flatMap_cons,List.length_append,ih,hk,List.length_cons,Nat.add_mul,Nat.one_mul,Nat.add_comm]
 have hj:j<d.size*k:=by
  have:=(List.getElem?_eq_some_iff.1 hu).1
  rw [hlen] at this
  simpa using this
 rw [q04v hk d.toList j (by simpa using hj)] at hu
 injection hu with hu
 obtain ⟨h1,h2⟩:=h j (by rw [size_flatK];exact hj)
 rw [Nat.zero_add,get_flatK _ _ _ _ hj] at h1;rw [Nat.zero_add] at h2;have hk0:0<k:=by
  rcases Nat.eq_zero_or_pos k with e | e
  ·subst e;simp at hj
  ·exact e
 have hq:j / k<d.size:=(Nat.div_lt_iff_lt_mul hk0).2 hj;have hdl:d.toList[j / k]! = d[j / k]!:=by rw [getElem!_pos d (j / k) hq,getElem!_pos d.toList (j / k) (by simpa using hq)];simp
 rw [hdl] at hu;exact ⟨h1.trans (congrArg some hu),h2⟩
theorem q04y {α:Type} [Inhabited α] {enc:α→List Value} {k:Nat} {w:World} {g n:Nat} {os:Array Obj} (d:Array α):w.grownBy (sortWorldK enc k w g 0 n d os) (some g):=by
 unfold sortWorldK;refine ⟨rfl,rfl,rfl,by simp [putRowK],fun k hk hne=>?_⟩
 rw [heap_grow_old _ _ (by simpa [putRowK] using hk)]
 have:g≠k:=fun e=>hne (by rw [e])
 simp [putRowK,putRow,mapBlock,Sort.ahead,Array.getElem?_modify,this]
theorem q054 {α:Type} [Inhabited α] {enc:α→List Value} {k:Nat} {w:World} {g n:Nat} {os:Array Obj} {d dk:Array α} (h:HoldsK enc k w g 0 d) (hg:g<w.heap.size) (hs:dk.size=d.size):HoldsK enc k (sortWorldK enc k w g 0 n dk os) g 0 dk :=
 holdsK_sortWorldK_c enc k w g 0 d dk n os h hg hs
theorem q05h {α:Type} [Inhabited α] {d d':Array α} (h:PermIn 0 d.size d d'):d'.toList.Perm d.toList:=by
 obtain ⟨h1,-,h3⟩:=h;have e1:d'.extract 0 d.size=d':=by rw [← h1];simp
 have e2:d.extract 0 d.size=d:=by simp
 rwa [e1,e2] at h3
theorem q05t {α:Type} [Inhabited α] {lt:α→α→Bool} {n:Nat} {d:Array α} (hn:n=d.size) (h:SortedIn lt 0 n d):d.toList.Pairwise fun x y=>lt y x=false:=by
 subst hn;rw [List.pairwise_iff_getElem];intro i j hi hj hij
 have:=h i j (Nat.zero_le _) hij (by simpa using hj)
 have hi':i<d.size:=by simpa using hi
 have hj':j<d.size:=by simpa using hj
 rw [getElem!_pos d i hi',getElem!_pos d j hj'] at this
 simpa using this
end

section
open Go.RowKit Go.Sort
theorem q06z (x:Fx) (Pc:Nat) (ch:Int) (w:World) (hc:w.cell? ⟨Pc,0,none⟩=some (.int .i64 ch)) (hb:Pc<w.heap.size) :
  Calls prog 116 #[x.val,.pointer (some ⟨Pc,0,none⟩)] w fun e w'=>e=.returned (.bool (!chB ch x))∧Below w.heap.size w w':=by
 have hq:chB ch x=decide (x.ch=ch):=rfl;rw [hq];obtain ⟨xc,pt,pr,un,ad,ph,cb⟩:=x;show Calls prog 116 #[.agg #[.int .i64 xc,.int .i64 pt,.string pr,.int .i64 un,.int .i64 ad,.int .i64 ph,.string cb],.pointer (some ⟨Pc,0,none⟩)] w fun e w'=>e=.returned (.bool (!decide (xc=ch)))∧Below w.heap.size w w'
 have m1:¬ Pc=w.heap.size:=by omega
 clear hq
 by_cases h1:xc=ch
 ·have e1:(xc == ch)=true:=by simpa using h1
  rw [decide_eq_true h1];clear h1
  go_enter func116,ntmps116
  go_wp2_with fail;go_ret;exact ⟨ret_b (by rw [bne,e1]),by (repeat' first | exact br_ | assumption | apply Below.drew | apply q18 | refine Below.alloc ?_ ?_ _ | refine Below.setCell ?_ ?_ _ | refine Below.trans ?_ (Below.mono ‹_› ?_) | omega | (simp;omega) | simp)⟩
 ·have e1:(xc == ch)=false:=by simpa using h1
  rw [decide_eq_false h1];clear h1
  go_enter func116,ntmps116
  go_wp2_with fail;go_ret;exact ⟨ret_b (by rw [bne,e1]),by (repeat' first | exact br_ | assumption | apply Below.drew | apply q18 | refine Below.alloc ?_ ?_ _ | refine Below.setCell ?_ ?_ _ | refine Below.trans ?_ (Below.mono ‹_› ?_) | omega | (simp;omega) | simp)⟩
abbrev Px:={x:Fx // 1≤x.pt∧x.pt≤64}
instance:Inhabited Px:=⟨⟨⟨0,1,⟨#[]⟩,0,0,0,⟨#[]⟩⟩,by decide⟩⟩
def pxE (x:Px):List Value:=shX.cs x.1
def pxC (x y:Px):Int:=x.1.pt-y.1.pt
theorem q070 (x y:Px) (W:World):Calls prog 118 #[.agg (pxE x).toArray,.agg (pxE y).toArray] W fun e w'=>e=.returned (.int .i64 (pxC x y))∧∃ q os',w' = grow (W.drewN q) os':=by
 obtain ⟨⟨c1,p1,r1,u1,a1,h1,b1⟩,hx⟩:=x;obtain ⟨⟨c2,p2,r2,u2,a2,h2,b2⟩,hy⟩:=y;show Calls prog 118 #[.agg #[.int .i64 c1,.int .i64 p1,.string r1,.int .i64 u1,.int .i64 a1,.int .i64 h1,.string b1],.agg #[.int .i64 c2,.int .i64 p2,.string r2,.int .i64 u2,.int .i64 a2,.int .i64 h2,.string b2]] W fun e w'=>e=.returned (.int .i64 (p1-p2))∧∃ q os',w' = grow (W.drewN q) os'
 dsimp only at hx hy;have w1:IntKind.i64.wrap (p1-p2)=p1-p2:=IntWalk.i64_in _ (by omega)
 clear hx hy
 go_enter func118,ntmps118
 go_wp2_with fail;go_ret;exact ⟨by first | rfl | simp [w1],0,_,by rw [alloc_eq_grow,alloc_eq_grow,grow_grow];rfl⟩
theorem q05i:SWO (ltOf pxC):=by
 refine ⟨fun x=>?_,fun x y z h1 h2=>?_,fun x y z h1 h2=>?_⟩
 ·unfold ltOf pxC;simp
 ·unfold ltOf pxC at *
  simp only [decide_eq_true_eq] at *;omega
 ·unfold ltOf pxC at *
  simp only [decide_eq_false_iff_not] at *;omega
end

section
open Go.RowKit Go.Sort
theorem q05j (L:List Px):L.flatMap pxE=shX.vs (L.map Subtype.val):=by
 unfold Sh.vs;rw [List.flatMap_map]
 rfl
theorem q05v (g cap:Nat) (l:List Fx) (w:World) (hC:Cells w g (shX.vs l)) (hr:∀ x ∈ l,1≤x.pt∧x.pt≤64) (hn:l.length≤100) :
  Calls prog 117 #[.slice (some ⟨g,0,none⟩) l.length cap,.func (.func 118) #[] #[]] w fun e w'=>e=.returned (.tuple #[])∧∃ d:List Fx,d.Perm l∧d.Pairwise (fun x y=>x.pt≤y.pt)∧Cells w' g (shX.vs d)∧w.grownBy w' (some g):=by
 obtain ⟨L,hL⟩:∃ L:List Px,L.map Subtype.val=l:=⟨l.attach.map fun x=>⟨x.1,hr x.1 x.2⟩,by rw [List.map_map];exact List.attach_map_subtype_val l⟩
 subst hL;have hk:∀ x:Px,(pxE x).length=7:=fun x=>rfl
 rw [← q05j] at hC;have hH:=q053 hk hC;have hsz:L.toArray.size=(L.map Subtype.val).length:=by simp
 rw [← hsz];have hc:=slices_SortFunc_f117 7 (fun w=>by kernel_rfl) (fun w=>by kernel_rfl) pxE hk (fun x v hv=>shX.one x.1 v hv) pxC q05i 118 #[] g 0 cap L.toArray w (enters_of func118 (by kernel_rfl) rfl) (fun _ _ _ _ x y=>q070 x y _) hH hC.1 (by rw [hsz];omega)
 refine hc.mono fun e w' ⟨he,d',n,os,hp,hs,hw⟩=>⟨he,d'.toList.map Subtype.val,?_,?_,?_,?_⟩
 ·have:=(q05h hp).map Subtype.val
  simpa using this
 ·have:=q05t hp.1.symm hs
  rw [List.pairwise_map];refine this.imp fun {x y} h=>?_
  unfold ltOf pxC at h;rw [decide_eq_false_iff_not] at h;omega
 ·rw [← q05j,hw]
  refine q04k hk (q054 hH hC.1 hp.1) ?_;exact Nat.lt_of_lt_of_le hC.1 (q04y d').size
 ·rw [hw]
  exact q04y d'
theorem fx_in {w:World} {B:Nat} {l:List Fx} (h:Cells w B (shX.vs l)):shX.In w (some ⟨B,0,none⟩) l.length l :=
 ⟨rfl,shX.vs_length l,fun _=>⟨B,0,rfl,h.1,fun j u hu=>by rw [Nat.zero_add];exact h.at_ hu⟩⟩
theorem q04o (gf:Nat) (cb:Array Value) (c:Nat) (w:World) (eg:∀ args w,(callFunc gf args).run prog w=.ok (.enter gf args) w) :
  Calls prog 115 #[.slice none 0 c,.func (.func gf) #[] cb] w fun e w'=>e=.returned (.slice none 0 c)∧RowKit.Below w.heap.size w w':=by
 have HIx:=hj_ (qbo gf cb (fun _=>false) none 0 c [] w eg (Sh.In.nil _ _) (by omega) (fun i h=>absurd h (Nat.not_lt_zero _)))
 clear eg
 go_enter func115,ntmps115
 go_wp2_with fail;refine HIx.out.mono ?_;rintro e wk ⟨rfl,hb⟩;have g1:(idxOf (fun _:Fx=>false) [] == -1)=true:=rfl
 go_wp2_with fail;go_ret;exact ⟨rfl,hb⟩
theorem q071 (A2:Option Addr) (n2 d2:Nat) (X:List Fx) (M:Option Nat) (ch:Int) (w:World) (hx:shX.In w A2 n2 X) (hn:n2≤100) (h1:OneP X) (hr:∀ x ∈ X,1≤x.pt∧x.pt≤64) :
  Calls prog 80 #[.agg #[.slice A2 n2 d2,.map M],.int .i64 ch] w fun e w'=>∃ A c,e=.returned (.slice A (partsL X ch).length c)∧shX.In w' A (partsL X ch).length (partsL X ch)∧Below w.heap.size w w':=by
 obtain ⟨rfl,_⟩:=id hx;have HCl:=hj_ (fun (w:World) h=>q04m A2 X.length d2 X w h hn)
 have hkeep:(X.filter fun x=>!(fun x=>!chB ch x) x)=X.filter (chB ch):=by simp
 have hfl:(X.filter (chB ch)).length≤X.length:=List.length_filter_le ..;have HP:=hj_ (fun (d:List Fx) (hp:d.Perm (X.filter (chB ch))) (hs:d.Pairwise fun x y=>x.pt≤y.pt)=>q05u h1 hr hp hs)
 have HSo:=hj_ (fun (g cap:Nat) (w:World) (hC:Cells w g (shX.vs (X.filter (chB ch))))=>q05v g cap (X.filter (chB ch)) w hC (fun x hx=>hr x (List.mem_filter.1 hx).1) (by omega))
 have HX:=hj_ hx;have HN:=hj_ hn;clear hx h1 hr hn;obtain ⟨W,hW⟩:∃ W,W=((w.alloc (.cells #[.slice A2 X.length d2,.map M] 81)).alloc (.cells #[.int .i64 ch] 3)):=⟨_,rfl⟩;obtain ⟨hB0,hK0⟩:=box2 #[.slice A2 X.length d2,.map M] 81 #[.int .i64 ch] 3 w W hW;have hK:∀ w',Below W.heap.size W w'→w'.cell? ⟨w.heap.size,0,none⟩=some (.slice A2 X.length d2)∧w'.cell? ⟨w.heap.size,1,none⟩=some (.map M)∧w'.cell? ⟨w.heap.size+1,0,none⟩=some (.int .i64 ch):=fun w' h=>⟨(hK0 w' h).1 0 _ rfl,(hK0 w' h).1 1 _ rfl,(hK0 w' h).2 0 _ rfl⟩
 have HK:=hj_ hK;have HW:=hj_ hW;have HB0:=hj_ hB0;have hB:=Below.refl W.heap.size W;obtain ⟨c0,c1,c2⟩:=hK W hB;clear hW hB0 hK hK0;replace HX:=hj_ (HX.out.below HB0.out)
 go_enter func80,ntmps80
 go_wp2_with fail;rw [← HW.out];refine (HCl.out _ HX.out).mono ?_;rintro e w1 ⟨v',rfl,hown,hb⟩;obtain ⟨Ao,co,rfl⟩:=qfu hown;have hpc:∀ w',Below W.heap.size W w'→w'.cell? ⟨w.heap.size+1,0,none⟩=some (.int .i64 ch):=fun w' h=>by
  obtain ⟨c0,c1,c2⟩:=HK.out w' h;exact c2
 have hWs:W.heap.size=w.heap.size+2:=by rw [HW.out];simp
 have hWs1:=hb.size
 rcases hown.2 with ⟨hv,hxs⟩ | ⟨g,cap,cur,hv,hg,hcur,-⟩
 ·injection hv with e1 e2 e3
  subst e1 e3;have hX0:X=[]:=by
   match X,e2 with
   | [],_=>rfl
  subst hX0;have HD:=hj_ (q04o 116 #[.pointer (some ⟨w.heap.size+1,0,none⟩)] 0 w1 (enters_of func116 (by kernel_rfl) rfl))
  have HS0:=hj_ (fun w=>slices_SortFunc_none_f117 (α:=Unit) none 0 (.func (.func 118) #[] #[]) w)
  have hpl:partsL [] ch=[]:=by
   have:=HP.out [] (by simp) List.Pairwise.nil
   exact this.symm
  have HPl:=hj_ hpl;have HB1:=hj_ (ht_ HB0.out hb);clear hown hxs hb hpc hWs hWs1 hpl hkeep hfl c0 c1 c2;go_wp2_with fail;refine HD.out.mono ?_;rintro e w2 ⟨rfl,hb2⟩;have HB2:=hj_ (ht_ HB1.out hb2);clear hb2;go_wp2_with fail;refine (HS0.out _).mono ?_;rintro e w3 ⟨rfl,rfl⟩;go_wp2_with fail;go_ret;exact ⟨none,0,by rw [HPl.out];rfl,by rw [HPl.out];exact Sh.In.nil _ _,HB2.out⟩
 ·injection hv with e1 e2 e3
  subst e1 e3;have hd:=q04n 116 #[.pointer (some ⟨w.heap.size+1,0,none⟩)] (fun x=>!chB ch x) W.heap.size g co X w1 (enters_of func116 (by kernel_rfl) rfl) hown HN.out hWs1 (fun x W' h=>q06z x (w.heap.size+1) ch W' (hpc W' (hb.trans h)) (by have:=h.size;omega))
  rw [hkeep] at hd;have HD:=hj_ hd;have HB1:=hj_ (And.intro hb (And.intro hg hWs));clear hown hcur hb hpc hWs hWs1 hd hkeep c0 c1 c2;go_wp2_with fail;refine HD.out.mono ?_;rintro e w2 ⟨rfl,hC2,hb2⟩;have HC2:=hj_ hC2;have HB2:=hj_ (HB1.out.1.trans hb2);clear hC2 hb2;go_wp2_with fail;refine (HSo.out g co _ HC2.out).mono ?_;rintro e w3 ⟨rfl,d,hp,hs,hC3,hgr⟩;have hdl:d=partsL X ch:=HP.out d hp hs;have HLn:=hj_ (show (X.filter (chB ch)).length=(partsL X ch).length by rw [← hdl];exact hp.length_eq.symm)
  have HI3:=hj_ (fx_in (hdl ▸ hC3));have hB3:=HB2.out.grown hgr HB2.out.size (fun q e=>by cases e;exact HB1.out.2.1)
  have HB3:=hj_ (ht_ HB0.out hB3);clear hp hs hC3 hgr hdl hB3;go_wp2_with fail;go_ret;exact ⟨some ⟨g,0,none⟩,co,by rw [← HLn.out];rfl,HI3.out,HB3.out⟩
end

end Go.Proofs.YtmcbkdlfhffphaaGreatDoor
