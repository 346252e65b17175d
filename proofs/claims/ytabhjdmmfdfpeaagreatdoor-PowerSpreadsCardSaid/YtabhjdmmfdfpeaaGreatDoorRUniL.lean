/- Lemmas. -/
import Derived.Test.YtabhjdmmfdfpeaaGreatDoorMUniK
import Derived.Sort.OwnSorted
import Derived.Test.YtabhjdmmfdfpeaaGreatDoorMShelfB
namespace Go.Proofs.YtabhjdmmfdfpeaaGreatDoor
set_option maxHeartbeats 32000000
open _root_.Go.Proofs.Tryz
open Go.RowKit
theorem q056:(prog.info? 45).map (fun i=>(i.zero,i.size,i.bytes))=some (some (.agg #[.int .i64 0,.int .i64 0,.string ⟨#[]⟩,.int .i64 0,.int .i64 0,.int .i64 0,.string ⟨#[]⟩]),7,72):=k_
theorem q04x (l:List Fx):∀ u ∈ shX.vs l,u.oneCell' = true:=by
 intro u hu;simp only [Sh.vs,List.mem_flatMap] at hu;obtain ⟨r,_,h⟩:=hu;exact shX.one r u h
set_option maxRecDepth 100000 in
theorem q04m (A:Option Addr) (n c:Nat) (l:List Fx) (w:World) (hl:shX.In w A n l) (hn:n≤100) :
  Calls prog 30 #[.slice A n c] w fun e w'=>∃ v',e=.returned v'∧w'.ownsRow w.heap.size 45 7 v' n (shX.vs l)∧Below w.heap.size w w':=by
 obtain ⟨i0,hi,hz0,hzz1,hz2⟩:=info_parts q056;have q22:∀ (w:World) (a:Option Addr) (n c n' c':Nat),(binOp .eql 24 (.slice a n c) (.slice none n' c')).run prog w=.ok (.bool a.isNone) w:=fun w a n c n' c'=>Lib.run_eql_slice_nil w _ _ a n c n' c' underlying24
 cases A with
 | none =>
  obtain rfl:l=[]:=by
   match l,hl with
   | [],_=>rfl
   | a :: t,hl=>obtain ⟨b,o,e,_⟩:=hl.at_ s_;cases e
  obtain ⟨rfl,_⟩:=hl;clear hi hz0 hzz1 hz2
  go_enter func30,ntmps30
  go_wp2;go_ret;exact ⟨_,rfl,World.ownsRow_nil _ _ _ _,br_⟩
 | some a =>
  have hlen:(shX.vs l).length=n*7:=by rw [shX.vs_length,← hl.1];rfl
  have hnews:Hid (∀ j u,(shX.vs l)[j]? = some u→w.cell? (a.add j)=some u):=hj_ (fun j u hu=>by
   have hlt:j<(shX.vs l).length:=(List.getElem?_eq_some_iff.1 hu).1;obtain ⟨b,o,e,hb,hc⟩:=hl.2.2 o_
   injection e with e
   subst e
   have:=hc j u hu
   rwa [show ((⟨b,o,none⟩:Addr).add j)=⟨b,o+j,none⟩ by unfold Addr.add;split <;> simp_all])
  have hone:=q04x l;generalize shX.vs l=L at *;clear hl
  go_enter func30,ntmps30
  go_wp2_with (at_builtin;refine wpList_append_own _ rfl _ _ 24 rfl w.heap.size 45 i0 _ 7 72 underlying24 hi hz0 hzz1 hz2 rfl d_ _ _ _ rfl (World.ownsRow_made w #[] 0 lr_ (Nat.zero_le _) s_) a n c L rfl hlen (fun j u hj=>Lib.cell?_alloc_some _ (hnews.out j u hj)) hone (by unfold maxLen;omega) o_ s_ ?_)
  intro v' w1 hown hgrow hnil;clear hnil;go_wp2;go_ret;refine ⟨v',rfl,by simpa using hown,?_⟩
  exact ((Below.refl _ w).alloc lr_ _).grown hgrow s_ (by intro k hk;simp [Value.ownBlock] at hk;omega)
structure Going (p:Fx→Bool) (l cur:List Fx) (i j:Nat):Prop where
 lt:i<j
 len:cur.length=l.length
 kept:cur.take i=(l.take j).filter fun x=>!p x
 rest:cur.drop j=l.drop j
theorem Going.at_ {p:Fx→Bool} {l cur:List Fx} {i j:Nat} (h:Going p l cur i j) (hj:j<l.length) (hj':j<cur.length):cur[j]=l[j]:=by
 have:=h.rest
 rw [List.drop_eq_getElem_cons hj',List.drop_eq_getElem_cons hj] at this
 injection this
section
open Go.RowKit Go.Sort
end
section
open Go.RowKit Go.Sort
abbrev Px:={x:Fx // 1≤x.pt∧x.pt≤64}
instance:Inhabited Px:=⟨⟨⟨0,1,⟨#[]⟩,0,0,0,⟨#[]⟩⟩,d_⟩⟩
end
section
open Go.RowKit Go.Sort
end
end Go.Proofs.YtabhjdmmfdfpeaaGreatDoor
