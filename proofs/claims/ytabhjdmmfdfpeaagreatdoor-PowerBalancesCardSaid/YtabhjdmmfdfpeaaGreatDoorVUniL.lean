/- Lemmas. -/
import Derived.Test.YtabhjdmmfdfpeaaGreatDoorKUniK
import Derived.Sort.OwnSorted
import Derived.Test.YtabhjdmmfdfpeaaGreatDoorKShelfB
namespace Go.Proofs.YtabhjdmmfdfpeaaGreatDoor
set_option maxHeartbeats 32000000
open _root_.Go.Proofs.Tryz
open Go.RowKit
variable {g k n:Nat} {w:World}
theorem q056:(prog.info? 45).map (fun i=>(i.zero,i.size,i.bytes))=some (some (.agg #[.int .i64 0,.int .i64 0,.string ⟨#[]⟩,.int .i64 0,.int .i64 0,.int .i64 0,.string ⟨#[]⟩]),7,72):=k_
theorem q04x (l:List Fx):∀ u ∈ shX.vs l,u.oneCell' = true:=by
 intro u hu;simp only [Sh.vs,List.mem_flatMap] at hu;obtain ⟨r,_,h⟩:=hu;exact shX.one r u h
set_option maxRecDepth 100000 in
theorem q04m (A:Option Addr) (n c:Nat) (l:List Fx) (w:World) (hl:shX.In w A n l) (hn:n≤100) :
  Calls prog 30 #[.slice A n c] w fun e w'=>∃ v',e=.returned v'∧w'.ownsRow w.heap.size 45 7 v' n (shX.vs l)∧Below w.heap.size w w':=by
 obtain ⟨i0,hi,hz0,hzz1,hz2⟩:=info_parts q056;have q22:∀ (w:World) (a:Option Addr) (n c n' c':Nat),(binOp .eql 24 (.slice a n c) (.slice none n' c')).run prog w=.ok (.bool a.isNone) w:=fun w a n c n' c'=>Lib.run_eql_slice_nil w _ _ a n c n' c' underlying24
 cases A with
 | none =>
  obtain rfl:l=[]:=by
   match l,hl with
   | [],_=>rfl
   | a :: t,hl=>obtain ⟨b,o,e,_⟩:=hl.at_ s_;cases e
  obtain ⟨rfl,_⟩:=hl;clear hi hz0 hzz1 hz2
  go_enter func30,ntmps30
  go_wp2;go_ret;exact ⟨_,rfl,World.ownsRow_nil _ _ _ _,br_⟩
 | some a =>
  have hlen:(shX.vs l).length=n*7:=by rw [shX.vs_length,← hl.1];rfl
  have hnews:Hid (∀ j u,(shX.vs l)[j]? = some u→w.cell? (a.add j)=some u):=hj_ (fun j u hu=>by
   have hlt:j<(shX.vs l).length:=(List.getElem?_eq_some_iff.1 hu).1;obtain ⟨b,o,e,hb,hc⟩:=hl.2.2 o_
   injection e with e
   subst e
   have:=hc j u hu
   rwa [show ((⟨b,o,none⟩:Addr).add j)=⟨b,o+j,none⟩ by unfold Addr.add;split <;> simp_all])
  have hone:=q04x l;generalize shX.vs l=L at *;clear hl
  go_enter func30,ntmps30
  go_wp2_with (at_builtin;refine wpList_append_own _ rfl _ _ 24 rfl w.heap.size 45 i0 _ 7 72 underlying24 hi hz0 hzz1 hz2 rfl d_ _ _ _ rfl (World.ownsRow_made w #[] 0 lr_ (Nat.zero_le _) s_) a n c L rfl hlen (fun j u hj=>Lib.cell?_alloc_some _ (hnews.out j u hj)) hone (by unfold maxLen;omega) o_ s_ ?_)
  intro v' w1 hown hgrow hnil;clear hnil;go_wp2;go_ret;refine ⟨v',rfl,by simpa using hown,?_⟩
  exact ((Below.refl _ w).alloc lr_ _).grown hgrow s_ (by intro k hk;simp [Value.ownBlock] at hk;omega)
structure Going (p:Fx→Bool) (l cur:List Fx) (i j:Nat):Prop where
 lt:i<j
 len:cur.length=l.length
 kept:cur.take i=(l.take j).filter fun x=>!p x
 rest:cur.drop j=l.drop j
theorem Going.at_ {p:Fx→Bool} {l cur:List Fx} {i j:Nat} (h:Going p l cur i j) (hj:j<l.length) (hj':j<cur.length):cur[j]=l[j]:=by
 have:=h.rest
 rw [List.drop_eq_getElem_cons hj',List.drop_eq_getElem_cons hj] at this
 injection this
section
open Go.RowKit Go.Sort
theorem q04v {α:Type} [Inhabited α] {enc:α→List Value} {k:Nat} (hk:∀ x,(enc x).length=k):∀ (l:List α) (j:Nat),j<l.length*k→(l.flatMap enc)[j]? = some ((enc l[j / k]!)[j % k]!)
 | [],j,h=>by simp at h
 | a :: l,j,h=>by
  have hk0:0<k:=by
   rcases Nat.eq_zero_or_pos k with e | e
   ·subst e;simp at h
   ·exact e
  rw [List.flatMap_cons]
  by_cases hj:j<k
  ·rw [List.getElem?_append_left (by rw [hk];exact hj),Nat.div_eq_of_lt hj,Nat.mod_eq_of_lt hj]
   have hl:j<(enc a).length:=by rw [hk];exact hj
   rw [List.getElem?_eq_getElem hl];simp [hl]
  ·have e1:j / k=(j-k) / k+1:=by rw [Nat.div_eq_sub_div hk0 o_]
   have e2:j % k=(j-k) % k:=Nat.mod_eq_sub_mod o_
   have e3:l.length*k+k=(a :: l).length*k:=by rw [List.length_cons,Nat.add_mul,Nat.one_mul]
   rw [List.getElem?_append_right (by rw [hk];omega),hk,q04v hk l (j-k) o_,e1,e2]
   simp
theorem q053 {α:Type} [Inhabited α] {enc:α→List Value} (hk:∀ x,(enc x).length=k) {l:List α} (h:Cells w g (l.flatMap enc)):HoldsK enc k w g 0 l.toArray:=by
 intro j hj;rw [size_flatK] at hj;have hj':j<l.length*k:=by simpa using hj
 obtain ⟨h1,h2⟩:=h.2 j _ (q04v hk l j hj');rw [Nat.zero_add,get_flatK _ _ _ _ hj];refine ⟨?_,h2⟩;rw [h1];simp
theorem q04k {α:Type} [Inhabited α] {enc:α→List Value} (hk:∀ x,(enc x).length=k) {d:Array α} (h:HoldsK enc k w g 0 d) (hg:g<w.heap.size):Cells w g (d.toList.flatMap enc):=by
 refine ⟨hg,fun j u hu=>?_⟩
 have hlen:∀ l:List α,(l.flatMap enc).length=l.length*k:=by
  intro l
  induction l with
  | nil=>simp
  | cons a l ih=>rw [List.flatMap_cons,List.length_append,ih,hk,List.length_cons,Nat.add_mul,Nat.one_mul,Nat.add_comm]
 have hj:j<d.size*k:=by
  have:=(List.getElem?_eq_some_iff.1 hu).1
  rw [hlen] at this
  simpa using this
 rw [q04v hk d.toList j (by simpa using hj)] at hu
 injection hu with hu
 obtain ⟨h1,h2⟩:=h j (by rw [size_flatK];exact hj)
 rw [Nat.zero_add,get_flatK _ _ _ _ hj] at h1;rw [Nat.zero_add] at h2;have hk0:0<k:=by
  rcases Nat.eq_zero_or_pos k with e | e
  ·subst e;simp at hj
  ·exact e
 have hq:j / k<d.size:=(Nat.div_lt_iff_lt_mul hk0).2 hj;have hdl:d.toList[j / k]! = d[j / k]!:=by rw [getElem!_pos d (j / k) hq,getElem!_pos d.toList (j / k) (by simpa using hq)];simp
 rw [hdl] at hu;exact ⟨h1.trans (congrArg some hu),h2⟩
theorem q04y {α:Type} [Inhabited α] {enc:α→List Value} {os:Array Obj} (d:Array α):w.grownBy (sortWorldK enc k w g 0 n d os) (some g):=by
 unfold sortWorldK;refine ⟨rfl,rfl,rfl,by simp [putRowK],fun k hk hne=>?_⟩
 rw [heap_grow_old _ _ (by simpa [putRowK] using hk)]
 have:g≠k:=fun e=>hne (by rw [e])
 simp [putRowK,putRow,mapBlock,Sort.ahead,Array.getElem?_modify,this]
theorem q054 {α:Type} [Inhabited α] {enc:α→List Value} {os:Array Obj} {d dk:Array α} (h:HoldsK enc k w g 0 d) (hg:g<w.heap.size) (hs:dk.size=d.size):HoldsK enc k (sortWorldK enc k w g 0 n dk os) g 0 dk :=
 holdsK_sortWorldK_c enc k w g 0 d dk n os h hg hs
theorem q05h {α:Type} [Inhabited α] {d d':Array α} (h:PermIn 0 d.size d d'):d'.toList.Perm d.toList:=by
 obtain ⟨h1,-,h3⟩:=h;have e1:d'.extract 0 d.size=d':=by rw [← h1];simp
 have e2:d.extract 0 d.size=d:=s_
 rwa [e1,e2] at h3
theorem q05t {α:Type} [Inhabited α] {lt:α→α→Bool} {d:Array α} (hn:n=d.size) (h:SortedIn lt 0 n d):d.toList.Pairwise fun x y=>lt y x=false:=by
 subst hn;rw [List.pairwise_iff_getElem];intro i j hi hj hij
 have:=h i j (Nat.zero_le _) hij (by simpa using hj)
 have hi':i<d.size:=by simpa using hi
 have hj':j<d.size:=by simpa using hj
 rw [getElem!_pos d i hi',getElem!_pos d j hj'] at this
 simpa using this
end
section
open Go.RowKit Go.Sort
abbrev Px:={x:Fx // 1≤x.pt∧x.pt≤64}
instance:Inhabited Px:=⟨⟨⟨0,1,⟨#[]⟩,0,0,0,⟨#[]⟩⟩,d_⟩⟩
end
section
open Go.RowKit Go.Sort
end
end Go.Proofs.YtabhjdmmfdfpeaaGreatDoor
