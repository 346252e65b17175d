/- Lemmas. -/
import Derived.WalkKit
import Derived.Lib.Hide
import Derived.Deep.OwnRows
import Derived.Deep.Draws
import Derived.Deep.AppendLies
import Derived.Test.YtabhjdmmfdfpeaaGreatDoorProg
import Derived.StillTailTactics
import Derived.RangeFuncCalls
import Derived.TacticsInMore
import Derived.OwnWalkIn
import Derived.Test.YtabhjdmmfdfpeaaGreatDoorKPlain
import Derived.RangeFuncBox
namespace Go.Proofs.YtabhjdmmfdfpeaaGreatDoor
set_option maxHeartbeats 32000000
open _root_.Go.Proofs.Tryz
open Go.RowKit
variable {l:List Nat} {xs:List Value} {B base c i k n:Nat} {o:Oper} {A:Option Addr} {P:Program} {e:TypeId} {W a w w' w0 w1:World}
theorem k_ {p:Prop} (h:p:=by kernel_rfl):p:=h
abbrev Rt (f:Nat) (a:Array Value) (w:World) (v:Value):Prop:=Calls prog f a w fun e w'=>e=.returned v∧RowKit.Below w.heap.size w w'
theorem hj_ {p:Prop} (h:p):RowKit.Hid p:=h
theorem br_:RowKit.Below B w w:=RowKit.Below.refl B w
theorem ht_ (h:RowKit.Below w.heap.size w W) (h2:RowKit.Below W.heap.size W w'):RowKit.Below w.heap.size w w':=h.trans (h2.mono h.size)
def Sl (w:World) (z:Nat) (A:Option Addr) (n:Nat) (xs:List Value):Prop :=
 xs.length=n*z∧(0<n→∃ b o,A=some ⟨b,o,none⟩∧b<w.heap.size∧∀ j u,xs[j]? = some u→w.cell? ⟨b,o+j,none⟩=some u)
section
variable {w w':World} {z n:Nat} {A:Option Addr} {xs:List Value}
theorem Sl.nil (w:World) (z:Nat) (A:Option Addr):Sl w z A 0 []:=⟨s_,fun h=>absurd h o_⟩
theorem Sl.keep (h:Sl w z A n xs) (hs:w.heap.size≤w'.heap.size) (hk:∀ b o,b<w.heap.size→w'.cell? ⟨b,o,none⟩=w.cell? ⟨b,o,none⟩):Sl w' z A n xs :=
 ⟨h.1,fun hn=>by
  obtain ⟨b,o,e,hb,hc⟩:=h.2 hn;exact ⟨b,o,e,o_,fun j u hu=>(hk b _ hb).trans (hc j u hu)⟩⟩
theorem Sl.below (h:Sl w z A n xs) (hb:Below w.heap.size w w'):Sl w' z A n xs:=h.keep hb.size fun b o hlt=>hb.cell (p:=⟨b,o,none⟩) hlt
theorem Sl.of_own (h:w.ownsRow base e z (.slice A n c) n xs):Sl w z A n xs:=by
 refine ⟨h.1,fun hn=>?_⟩
 obtain ⟨g,cap,hv,_,hlt⟩:=h.form hn;have hA:A=some ⟨g,0,none⟩:=by injection hv
 subst hA;refine ⟨g,0,rfl,hlt,fun j u hu=>?_⟩
 have:=h.cells (g:=g) rfl j u hu
 unfold Addr.add at this
 by_cases hj:j=0
 ·subst hj;simpa using this
 ·simpa [hj] using this
end
theorem bcell (hb:Below W.heap.size W w1):(∀ b o,b<W.heap.size→w1.cell? ⟨b,o,none⟩=W.cell? ⟨b,o,none⟩)∧(∀ b o,b<W.heap.size→w1.frozen? ⟨b,o,none⟩=W.frozen? ⟨b,o,none⟩) :=
 ⟨fun b o h=>hb.cell (p:=⟨b,o,none⟩) h,fun b o h=>hb.frozen (p:=⟨b,o,none⟩) h⟩
theorem up_ {f:Nat} {args:Array Value} {r:Ending} {Q:Ending→World→Prop} (h:Calls P f args w fun e w'=>e=r∧Below w.heap.size w w') (hB:Below w0.heap.size w0 w) (k:∀ w',Below w0.heap.size w0 w'→Q r w'):Calls P f args w Q:=h.mono (by
 rintro e w' ⟨rfl,hb⟩;exact k w' (ht_ hB hb))
theorem q18 (h:Below B a w) (n:Nat):Below B a (w.drewN n):=⟨h.os,h.tape,h.output,h.size,h.block⟩
theorem bz_ {p:Prop} (h:p:=by (repeat' first | exact br_ | assumption | apply Below.drew | apply q18 | refine Below.alloc ?_ ?_ _ | refine Below.setCell ?_ ?_ _ | refine Below.trans ?_ (Below.mono ‹_› ?_) | omega | (simp;omega) | simp)):p:=h
theorem bz (h:Below B a w:=by (repeat (first | exact br_ | assumption | apply Below.drew | apply q18 | (refine Below.alloc ?_ (by first | omega | (simp;omega) | simp) _) | (refine Below.setCell ?_ (by first | omega | (simp;omega) | simp) _) | (refine Below.trans ?_ (Below.mono (by assumption) (by first | omega | (simp;omega) | simp)))))):Below B a w:=h
theorem qly {a b:Bool} (h:a=b):Ending.returned (.bool a)=.returned (.bool b):=by rw [h]
def rv (l:List (Int × Int)):List Value:=l.flatMap fun r=>[.int .i64 r.1,.int .i64 r.2]
theorem qo4 (r:Int × Int) (l:List (Int × Int)):rv (r :: l)=.int .i64 r.1 :: .int .i64 r.2 :: rv l:=rfl
theorem rv_at:∀ (l:List (Int × Int)) (k:Nat) (hk:k<l.length),(rv l)[k*2]? = some (.int .i64 l[k].1)∧(rv l)[k*2+1]? = some (.int .i64 l[k].2)
 | r :: l,0,_=>⟨rfl,rfl⟩
 | r :: l,k+1,hk=>by
  have:=rv_at l k (by simpa using hk)
  rw [qo4,show (k+1)*2=k*2+1+1 from o_]
  simpa using this
def Rs (w:World) (A:Option Addr) (n:Nat) (l:List (Int × Int)):Prop:=n=l.length∧Sl w 2 A n (rv l)
theorem Rs.at_ {l:List (Int × Int)} (h:Rs w A n l) (hk:k<l.length) :
  ∃ b o,A=some ⟨b,o,none⟩∧b<w.heap.size∧∀ j (hj:j<l.length),w.cell? ⟨b,o+j*2,none⟩=some (.int .i64 l[j].1)∧w.cell? ⟨b,o+j*2+1,none⟩=some (.int .i64 l[j].2):=by
 obtain ⟨b,o,e,hb,hc⟩:=h.2.2 (oh_ h.1)
 refine ⟨b,o,e,hb,fun j hj=>?_⟩
 have ⟨h1,h2⟩:=rv_at l j hj;exact ⟨hc _ _ h1,by have:=hc _ _ h2;rwa [← Nat.add_assoc] at this⟩
theorem qfu {z:Nat} {v:Value} (h:w.ownsRow base e z v n xs):∃ A c,v=.slice A n c:=by
 rcases h.2 with ⟨rfl,rfl⟩ | ⟨g,cap,cur,rfl,_⟩
 ·exact ⟨_,_,rfl⟩
 ·exact ⟨_,_,rfl⟩
theorem q1a {z:Nat} {v:Value} (hb:Below base w0 w) (h0:base≤w0.heap.size) (h:w.ownsRow base e z v n xs) (hg:w.grownBy w' v.ownBlock):Below base w0 w' :=
 hb.grown hg (Nat.le_trans h0 hb.size) fun k hk=>(h.lt k hk).1
theorem q2g (w:World) (cs:List Value) (t:TypeId):∀ j u,cs[j]? = some u→(w.alloc (.cells cs.toArray t)).cell? ((⟨w.heap.size,0,none⟩:Addr).add j)=some u:=by
 intro j u hj
 have:((⟨w.heap.size,0,none⟩:Addr).add j)=⟨w.heap.size,j,none⟩:=by unfold Addr.add;split <;> simp_all
 rw [this,World.cell?_alloc_new]
 simpa using hj
theorem q003 {ops:Array Oper} {rest:List Oper} {a:Act} {Q:Exit→Act→World→Prop} (hgd:o.guard=none) (s x:Operand) (t:TypeId)
  (ho:o.op=.call { callee:=.builtin .append,args:=#[s,x],argTypes:=#[t,t] })
  (base:Nat) (e:TypeId) (z:Value) (size bytes:Nat) (ht:P.underlying t=some (.slice e)) (hinfo:(P.info? e).map (fun i=>(i.zero,i.size,i.bytes))=some (some z,size,bytes)) (hzs:z.cells.size=size) (hsz:0<size)
  (v:Value) (n:Nat) (xs:List Value) (hs:a.eval s=v) (hown:w.ownsRow base e size v n xs)
  (cs:List Value) (t2:TypeId) (b2 c:Nat) (hx:a.eval x=.slice (some ⟨b2,0,none⟩) 1 c) (hb2:b2=w.heap.size) (hl:cs.length=size) (h1:∀ u ∈ cs,u.oneCell' = true)
  (h63:n+1≤maxLen) (hbytes:(n+1)*bytes≤140737488355328) (hbase:base≤w.heap.size)
  (h:∀ g cap w',w'.ownsRow base e size (.slice (some ⟨g,0,none⟩) (n+1) cap) (n+1) (xs ++ cs)→w.grownBy w' v.ownBlock→wpList P ops Q rest (a.put o.dst (.slice (some ⟨g,0,none⟩) (n+1) cap)) w') :
  wpList P ops Q (o :: rest) a (w.alloc (.cells cs.toArray t2)):=by
 obtain ⟨i,hi,hz,hsize,hby⟩:=info_parts hinfo;subst hb2;refine wpList_append_own (w:=w.alloc (.cells cs.toArray t2)) hgd s x t ho base e i z size bytes ht hi hz hsize hby hzs hsz v n xs hs (hown.alloc _) ⟨w.heap.size,0,none⟩ 1 c cs hx o_ (q2g w cs t2) h1 h63 hbytes (by simp;omega) ?_
 intro v' w' hown' hg _;obtain ⟨g,cap,hv,_⟩:=hown'.form o_
 subst hv;exact h g cap w' hown' ((World.grownBy_alloc w _ _).trans hg)
theorem qf9 (x:Int):∀ u ∈ [Value.int .i64 x],u.oneCell' = true:=by simp;rfl
def iv (l:List Int):List Value:=l.map (Value.int .i64)
def Is (w:World) (A:Option Addr) (n:Nat) (l:List Int):Prop:=n=l.length∧Sl w 1 A n (iv l)
theorem Is.below {l:List Int} (h:Is w A n l) (hb:Below w.heap.size w w'):Is w' A n l:=⟨h.1,h.2.below hb⟩
theorem Is.at1 {l:List Int} (h:Is w A n l) (hk:k<l.length) :
  ∃ b o,A=some ⟨b,o,none⟩∧b<w.heap.size∧w.cell? ⟨b,o+k,none⟩=some (.int .i64 l[k]):=by
 obtain ⟨b,o,e,hb,hc⟩:=h.2.2 (oh_ h.1)
 exact ⟨b,o,e,hb,hc k _ (by simp [iv,hk])⟩
theorem qfy {base':Nat} {z:Nat} {v:Value} (h:w.ownsRow base e z v n xs) (hb:base'≤base):w.ownsRow base' e z v n xs:=by
 refine ⟨h.1,?_⟩
 rcases h.2 with h | ⟨g,cap,cur,hv,hg,r⟩
 ·exact .inl h
 ·exact .inr ⟨g,cap,cur,hv,Nat.le_trans hb hg,r⟩
def preB (s p:ByteArray):Bool:=decide (p.size≤s.size) && ((s.extract 0 p.size).toList == p.toList)
theorem qar (s p:ByteArray) (w:World):Calls prog 235 #[.string s,.string p] w fun r w'=>r=.returned (.bool (preB s p))∧w=w':=by
 by_cases h:p.size≤s.size
 ·have hz:=hj_ (show preB s p=((s.extract 0 p.size).toList == p.toList) from by simp [preB,h])
  go_enter func235,ntmps235
  go_wp2;go_ret;exact ⟨qly hz.out.symm,rfl⟩
 ·have hz:=hj_ (show preB s p=false from by simp [preB,h])
  go_enter func235,ntmps235
  go_wp2;go_ret;exact ⟨qly hz.out.symm,rfl⟩
theorem q46 (s p:ByteArray) (w:World) (h:preB s p=true):Calls prog 310 #[.string s,.string p] w fun r w'=>r=.returned (.tuple #[.string (s.extract p.size s.size),.bool true])∧w=w':=by
 have h1:p.size≤s.size:=by simp [preB] at h;exact h.1
 have H:=hj_ h;clear h
 go_enter func310,ntmps310
 go_wp2_with (first | (go_at_call 235;refine (qar s p _).mono ?_;rw [H.out];rintro r w1 ⟨rfl,rfl⟩) | go_in)
 go_ret2;exact ⟨rfl,rfl⟩
theorem q45 (s p:ByteArray) (w:World) (h:preB s p=false):Calls prog 310 #[.string s,.string p] w fun r w'=>r=.returned (.tuple #[.string s,.bool false])∧w=w':=by
 have H:=hj_ h;clear h
 go_enter func310,ntmps310
 go_wp2_with (first | (go_at_call 235;refine (qar s p _).mono ?_;rw [H.out];rintro r w1 ⟨rfl,rfl⟩) | go_in)
 go_ret2;exact ⟨rfl,rfl⟩
theorem qih (s p:ByteArray):preB s p=true↔p.data.toList <+: s.data.toList:=by
 unfold preB;rw [ByteArray.toList_eq,ByteArray.toList_eq,Bool.and_eq_true,decide_eq_true_eq,beq_iff_eq];have e:(s.extract 0 p.size).data.toList=s.data.toList.take p.size:=by simp [ByteArray.data_extract]
 rw [e,List.prefix_iff_eq_take];have hp:p.data.toList.length=p.size:=s_
 rw [hp]
 constructor
 ·rintro ⟨_,h⟩;exact h.symm
 ·intro h
  refine ⟨?_,h.symm⟩
  have:=congrArg List.length h
  simp at this;omega
section
open Go
section
variable {P:Program} {ops:Array Oper} {w:World} {y n:Nat}
end
end
section
open Go
section
variable {F:Fence} {n:Nat} {P:Program} {md:Region.Mode} {ops:Array Oper} {Q:Exit→Act→World→Prop}
def Clo (md:Region.Mode) (ops:Array Oper) (b:List Bool):Prop :=
 b.length=ops.size∧∀ (i:Nat) (o:Oper),ops[i]? = some o→b[i]? = some true→∀ e ∈ o.after,Region.binds md e=true→b[e.on]? = some true
def backB (ops:Array Oper):Bool:=(List.range ops.size).all fun i=>match ops[i]? with
 | some o=>o.after.all fun e=>decide (e.on<i)
 | none=>true
theorem q10 (h:backB ops=true) (ho:ops[i]? = some o):∀ e ∈ o.after,e.on<i:=by
 have hi:i<ops.size:=(Array.getElem?_eq_some_iff.1 ho).1
 have:=List.all_eq_true.1 h i (List.mem_range.2 hi)
 rw [ho] at this;intro e he
 have:=Array.all_eq_true'.1 this e he
 simpa using this
theorem q9z (b:List Bool) (i:Nat) (d:Bool):b.toArray.getD i d=(b[i]?).getD d:=by
 simp [Array.getD_eq_getD_getElem?]
theorem qlm {b:List Bool} (hb:Clo md ops b) (hback:backB ops=true) (h:Region.ready md ops b.toArray=[]):∀ i,i<ops.size→b[i]? = some true:=by
 intro i
 induction i using Nat.strongRecOn with
 | _ i ih =>
  intro hi;have hlt:i<b.length:=by rw [hb.1];exact hi
  cases hv:b[i] with
  | true=>rw [List.getElem?_eq_getElem hlt,hv]
  | false =>
   have:i ∈ Region.ready md ops b.toArray:=by
    refine mem_ready.2 ⟨by rw [q9z,List.getElem?_eq_getElem hlt,hv];rfl,ops[i],Array.getElem?_eq_getElem hi,fun e he hbd=>?_⟩
    have hlt2:=q10 hback (Array.getElem?_eq_getElem hi) e he;rw [q9z,ih e.on hlt2 o_];rfl
   rw [h] at this;cases this
theorem q3k {b:List Bool} (hb:Clo md ops b) (hi:i ∈ Region.ready md ops b.toArray):Clo md ops (b.set i true):=by
 obtain ⟨_,oi,hoi,hall⟩:=mem_ready.1 hi;have hlt:i<b.length:=by rw [hb.1];exact (Array.getElem?_eq_some_iff.1 hoi).1
 refine ⟨by rw [List.length_set];exact hb.1,fun j oj hj hl e he hbd=>?_⟩
 by_cases hij:i=j
 ·subst hij
  obtain rfl:oj=oi:=Option.some.inj (hj.symm.trans hoi)
  have:=hall e he hbd
  rw [q9z] at this
  by_cases h2:e.on=i
  ·rw [h2,List.getElem?_set_self hlt]
  ·rw [List.getElem?_set_ne (fun h=>h2 h.symm)]
   cases h3:b[e.on]? with
   | none=>rw [h3] at this;cases this
   | some v=>rw [h3] at this;simpa using this
 ·rw [List.getElem?_set_ne hij] at hl
  have:=hb.2 j oj hj hl e he hbd
  by_cases h2:e.on=i
  ·rw [h2,List.getElem?_set_self hlt]
  ·rw [List.getElem?_set_ne (fun h=>h2 h.symm)];exact this
theorem qzv (act:List Bool→Act) (wd:List Bool→World) (hback:backB ops=true)
  (hstep:∀ (b:List Bool) (i:Nat),Clo md ops b→i ∈ Region.ready md ops b.toArray→∀ K:Act→World→Prop,K (act (b.set i true)) (wd (b.set i true))→wpOpIn F n P ops Q i K (act b) (wd b))
  (hend:∀ b,b.length=ops.size→(∀ i,i<ops.size→b[i]? = some true)→Q .normal (act b) (wd b)) :
  ∀ (fuel:Nat) (b:List Bool),Clo md ops b→ops.size≤fuel+b.count true→wpAnyIn F n P md ops Q fuel b.toArray (act b) (wd b)
 | 0,b,hb,hf=>by
  have hall:∀ i,i<ops.size→b[i]? = some true:=by
   have h1:b.count true=b.length:=Nat.le_antisymm List.count_le_length (by rw [hb.1];omega)
   have h2:=List.count_eq_length.1 h1;intro i hi;have hlt:i<b.length:=by rw [hb.1];exact hi
   rw [List.getElem?_eq_getElem hlt,← h2 _ (List.getElem_mem hlt)]
  refine ⟨?_,hend b hb.1 hall⟩
  cases h:Region.ready md ops b.toArray with
  | nil=>rfl
  | cons i t =>
   have hi:i ∈ Region.ready md ops b.toArray:=by rw [h];simp
   obtain ⟨h1,o,ho,_⟩:=mem_ready.1 hi;rw [q9z,hall i (Array.getElem?_eq_some_iff.1 ho).1] at h1
   cases h1
 | fuel+1,b,hb,hf=>by
  refine ⟨fun h=>hend b hb.1 (qlm hb hback h),fun i hi=>?_⟩
  have ih:=qzv act wd hback hstep hend fuel (b.set i true) (q3k hb hi) (by
   obtain ⟨h1,o,ho,_⟩:=mem_ready.1 hi;have hlt:i<b.length:=by rw [hb.1];exact (Array.getElem?_eq_some_iff.1 ho).1
   rw [q9z,List.getElem?_eq_getElem hlt] at h1;have h1:b[i]=false:=h1;rw [List.count_set hlt,h1];simp
   omega)
  refine hstep b i hb hi _ ?_
  rwa [← List.setIfInBounds_toArray] at ih
end
end
section
open Go
section
variable {F:Fence} {n:Nat} {P:Program} {md:Region.Mode} {ops:Array Oper} {Q:Exit→Act→World→Prop}
end
end
structure Sh (α:Type) where
 z:Nat
 cs:α→List Value
 len:∀ a,(cs a).length=z
 one:∀ a,∀ u ∈ cs a,u.oneCell' = true
section
variable {α:Type} (S:Sh α)
def Sh.vs (l:List α):List Value:=l.flatMap S.cs
theorem Sh.vs_cons (a:α) (l:List α):S.vs (a :: l)=S.cs a ++ S.vs l:=rfl
theorem Sh.vs_append (l m:List α):S.vs (l ++ m)=S.vs l ++ S.vs m:=by simp [Sh.vs]
theorem Sh.vs_one1 (a:α):S.vs [a]=S.cs a:=by simp [Sh.vs]
theorem Sh.vs_length (l:List α):(S.vs l).length=l.length*S.z:=by
 induction l with
 | nil=>simp [Sh.vs]
 | cons a l ih=>rw [S.vs_cons,List.length_append,ih,S.len,List.length_cons,Nat.succ_mul,Nat.add_comm]
theorem Sh.vs_at:∀ (l:List α) (k:Nat) (hk:k<l.length) (j:Nat),j<S.z→(S.vs l)[k*S.z+j]? = (S.cs l[k])[j]?
 | a :: l,0,_,j,hj=>by
  rw [S.vs_cons,List.getElem?_append_left (by rw [S.len];omega)]
  simp
 | a :: l,k+1,hk,j,hj=>by
  have h1:=Sh.vs_at l k (by simpa using hk) j hj
  have e:(k+1)*S.z+j-S.z=k*S.z+j:=by rw [Nat.succ_mul];omega
  rw [S.vs_cons,List.getElem?_append_right (by rw [S.len,Nat.succ_mul];omega),S.len,e,h1]
  rfl
def Sh.In (w:World) (A:Option Addr) (n:Nat) (l:List α):Prop:=n=l.length∧Sl w S.z A n (S.vs l)
variable {S}
theorem Sh.In.below {l:List α} (h:S.In w A n l) (hb:Below w.heap.size w w'):S.In w' A n l:=⟨h.1,h.2.below hb⟩
theorem Sh.In.at_ {l:List α} (h:S.In w A n l) (h0:0<l.length) :
  ∃ b o,A=some ⟨b,o,none⟩∧b<w.heap.size∧∀ k (hk:k<l.length) j u,j<S.z→(S.cs l[k])[j]? = some u→w.cell? ⟨b,o+k*S.z+j,none⟩=some u:=by
 obtain ⟨b,o,e,hb,hc⟩:=h.2.2 (oh_ h.1)
 refine ⟨b,o,e,hb,fun k hk j u hj hu=>?_⟩
 rw [Nat.add_assoc];exact hc _ _ ((S.vs_at l k hk j hj).trans hu)
theorem Sh.In.nil (w:World) (A:Option Addr):S.In w A 0 []:=⟨rfl,by simpa [Sh.vs] using Sl.nil w S.z A⟩
theorem Sh.In.of_own {l:List α} (h:w.ownsRow base e S.z (.slice A n c) n (S.vs l)) (hn:n=l.length):S.In w A n l:=⟨hn,Sl.of_own h⟩
theorem Sh.In.fresh (w:World) (l:List α) (t:TypeId) (b:Nat) (hb:b=w.heap.size):S.In (w.alloc (.cells (S.vs l).toArray t)) (some ⟨b,0,none⟩) l.length l:=by
 subst hb;refine ⟨rfl,S.vs_length l,fun _=>⟨w.heap.size,0,rfl,s_,fun j u hu=>?_⟩⟩
 rw [Nat.zero_add,World.cell?_alloc_new]
 simpa using hu
theorem Sh.In.of_cells {a:Addr} {len:Nat} (Good:α→Prop) (hz:0<S.z) (h:∀ i,i<len→∃ x:α,Good x∧∀ j u,(S.cs x)[j]? = some u→w.cell? (a.add (i*S.z+j))=some u) (d:α):∃ l,S.In w (some a) len l∧∀ x ∈ l,Good x:=by
 have hch:∀ i,∃ x:α,i<len→Good x∧∀ j u,(S.cs x)[j]? = some u→w.cell? (a.add (i*S.z+j))=some u:=fun i=>by
  by_cases hi:i<len
  ·obtain ⟨x,hx⟩:=h i hi
   exact ⟨x,fun _=>hx⟩
  ·exact ⟨d,fun h=>absurd h hi⟩
 let f:Nat→α:=fun i=>Classical.choose (hch i)
 have hf0:∀ i,i<len→Good (f i)∧∀ j u,(S.cs (f i))[j]? = some u→w.cell? (a.add (i*S.z+j))=some u:=fun i=>Classical.choose_spec (hch i)
 have hf:∀ i,i<len→∀ j u,(S.cs (f i))[j]? = some u→w.cell? (a.add (i*S.z+j))=some u:=fun i hi=>(hf0 i hi).2
 refine ⟨(List.range len).map f,⟨s_,by rw [S.vs_length];simp,fun hn=>?_⟩,fun x hx=>?_⟩
 ·obtain ⟨b,o,sp⟩:=a
  have hlen:=S.len (f 0);have h0:=hf 0 hn 0 ((S.cs (f 0))[0]'o_) (List.getElem?_eq_getElem _)
  have hsp:sp=none:=by simpa [Addr.add] using World.cell?_spot h0
  subst hsp;have hadd:∀ j,((⟨b,o,none⟩:Addr).add j)=⟨b,o+j,none⟩:=fun j=>by unfold Addr.add;split <;> simp_all
  refine ⟨b,o,rfl,block_lt_of_cell (a:=⟨b,o+(0*S.z+0),none⟩) (by rw [← hadd];exact h0),fun j u hu=>?_⟩
  have hlt:j<(S.vs ((List.range len).map f)).length:=(List.getElem?_eq_some_iff.1 hu).1;rw [S.vs_length] at hlt;simp at hlt;have hd:j / S.z<len:=Nat.div_lt_of_lt_mul (by rw [Nat.mul_comm];exact hlt)
  have hk:j / S.z<((List.range len).map f).length:=by simpa using hd
  have hm:j % S.z<S.z:=Nat.mod_lt _ hz;have e:j / S.z*S.z+j % S.z=j:=by rw [Nat.mul_comm];exact Nat.div_add_mod j S.z
  have h1:=S.vs_at ((List.range len).map f) (j / S.z) hk (j % S.z) hm;rw [e,hu] at h1;have hget:((List.range len).map f)[j / S.z]=f (j / S.z):=s_
  rw [hget] at h1
  have:=hf (j / S.z) hd (j % S.z) u h1.symm
  rwa [hadd,e] at this
 ·obtain ⟨i,hi,rfl⟩:=List.mem_map.1 hx
  exact (hf0 i (List.mem_range.1 hi)).1
variable (S)
def Sh.Out (e:TypeId) (l:List α) (w:World) (r:Value) (w':World):Prop :=
 ∃ A c,r=.slice A l.length c∧w'.ownsRow w.heap.size e S.z (.slice A l.length c) l.length (S.vs l)∧Below w.heap.size w w'
variable {S}
theorem Sh.Out.up {l:List α} {r:Value} (h:S.Out e l w1 r w') (hb:Below w.heap.size w w1):S.Out e l w r w':=by
 obtain ⟨A,c,hr,ho,hw⟩:=h;exact ⟨A,c,hr,qfy ho hb.size,ht_ hb hw⟩
theorem Sh.Out.nil (hb:Below w.heap.size w w'):S.Out e [] w (.slice none 0 0) w':=⟨none,0,rfl,World.ownsRow_nil _ _ _ _,hb⟩
end
structure Gl where
 s:ByteArray
 v:Int
 st:Int
 ti:Int
def shG:Sh Gl:=⟨4,fun g=>[.string g.s,.int .i64 g.v,.int .i64 g.st,.int .i64 g.ti],fun _=>rfl,fun a=>by simp;exact ⟨rfl,rfl,rfl,rfl⟩⟩
theorem gl_at {l:List Gl} (h:shG.In w A n l) (h0:0<l.length) :
  ∃ b o,A=some ⟨b,o,none⟩∧b<w.heap.size∧∀ k (hk:k<l.length),w.cell? ⟨b,o+k*4,none⟩=some (.string l[k].s)∧w.cell? ⟨b,o+k*4+1,none⟩=some (.int .i64 l[k].v)∧w.cell? ⟨b,o+k*4+2,none⟩=some (.int .i64 l[k].st)∧w.cell? ⟨b,o+k*4+3,none⟩=some (.int .i64 l[k].ti):=by
 obtain ⟨b,o,e,hb,hc⟩:=h.at_ h0
 exact ⟨b,o,e,hb,fun k hk=>⟨hc k hk 0 _ d_ rfl,hc k hk 1 _ d_ rfl,hc k hk 2 _ d_ rfl,hc k hk 3 _ d_ rfl⟩⟩
section
open Go
section
variable {P:Program} {ops:Array Oper} {w:World} {n:Nat}
end
section
variable {P:Program} {ops:Array Oper} {w:World}
end
end
def uv (l:List Nat):List Value:=l.map fun (x:Nat)=>Value.int .u64 (x:Int)
theorem uv_one (l:List Nat):∀ u ∈ uv l,u.oneCell' = true:=by
 intro u hu;simp only [uv,List.mem_map] at hu;obtain ⟨x,_,rfl⟩:=hu
 rfl
theorem qys (l m:List Nat):uv (l ++ m)=uv l ++ uv m:=by simp [uv]
theorem qyt (l:List Nat):(uv l).length=l.length:=by simp [uv]
theorem u_one (x:Int):∀ u ∈ [Value.int .u64 x],u.oneCell' = true:=by simp;rfl
theorem uv_set (l:List Nat) (i x:Nat):(uv l).set i (.int .u64 (x:Int))=uv (l.set i x):=by simp [uv,List.map_set]
theorem qyu (n:Nat):List.replicate n (Value.int .u64 0)=uv (List.replicate n 0):=by simp [uv]
def Us (w:World) (A:Option Addr) (n:Nat) (l:List Nat):Prop:=n=l.length∧Sl w 1 A n (uv l)
theorem Us.below (h:Us w A n l) (hb:Below w.heap.size w w'):Us w' A n l:=⟨h.1,h.2.below hb⟩
theorem Us.at1 (h:Us w A n l) (hk:k<l.length) :
  ∃ b o,A=some ⟨b,o,none⟩∧b<w.heap.size∧w.cell? ⟨b,o+k,none⟩=some (.int .u64 (l[k]:Int)):=by
 obtain ⟨b,o,e,hb,hc⟩:=h.2.2 (oh_ h.1)
 exact ⟨b,o,e,hb,hc k _ (by simp [uv,hk])⟩
theorem Us.nil (w:World) (A:Option Addr):Us w A 0 []:=⟨rfl,Sl.nil _ _ _⟩
theorem Us.of_own (h:w.ownsRow base e 1 (.slice A n c) n (uv l)) (hn:n=l.length):Us w A n l:=⟨hn,Sl.of_own h⟩
theorem Us.take (h:Us w A n l) (k:Nat) (hk:k≤n):Us w A k (l.take k):=by
 obtain ⟨rfl,h1,h2⟩:=h;refine ⟨by rw [List.length_take];omega,by rw [qyt,List.length_take];omega,fun hn=>?_⟩
 obtain ⟨b,o,e,hb,hc⟩:=h2 o_
 refine ⟨b,o,e,hb,fun j u hu=>hc j u ?_⟩
 have hj:j<k:=by
  have:=(List.getElem?_eq_some_iff.1 hu).1
  rw [qyt,List.length_take] at this;omega
 rw [← hu];simp [uv,hj]
theorem Us.addc {a:Addr} (h:Us w (some a) n l):(uv l).length=n*1∧∀ j u,(uv l)[j]? = some u→w.cell? (a.add j)=some u:=by
 obtain ⟨rfl,h1,h2⟩:=h;refine ⟨h1,fun j u hu=>?_⟩
 have hj:j<(uv l).length:=(List.getElem?_eq_some_iff.1 hu).1;obtain ⟨b,o,e,_,hc⟩:=h2 (by rw [h1] at hj;omega)
 injection e with e
 subst e
 have:=hc j u hu
 unfold Addr.add
 by_cases hj:j=0
 ·subst hj;simpa using this
 ·simpa [hj] using this
def Mag (w:World) (v:Value) (m:Nat):Prop:=∃ A c,v=.slice A (wds 1000000000 m).length c∧(wds 1000000000 m).length≤c∧Us w A (wds 1000000000 m).length (wds 1000000000 m)
theorem Mag.below {v:Value} {m:Nat} (h:Mag w v m) (hb:Below w.heap.size w w'):Mag w' v m:=by
 obtain ⟨A,c,e,hc,hu⟩:=h;exact ⟨A,c,e,hc,hu.below hb⟩
theorem qfs {z:Nat} (h:w.ownsRow base e z (.slice A n c) n xs):n≤c:=by
 rcases h.2 with ⟨h1,h2⟩ | ⟨g,cap,cur,hv,_,_,hle,_⟩
 ·omega
 ·injection hv with e1 _ e3
  rw [e3];exact hle
def Num (w:World) (v:Value) (z:Int):Prop:=∃ s,v=.agg #[.bool (decide (z<0)),s]∧Mag w s z.natAbs
theorem q14 (s:ByteArray):∃ b:ByteArray,b.data.toList=bodyT s.data.toList∧b=(if negT s.data.toList then s.extract 1 s.size else s)∧preB s ⟨#[45]⟩=negT s.data.toList:=by
 have hpre:preB s ⟨#[45]⟩=negT s.data.toList:=by
  rw [Bool.eq_iff_iff,qih];have hs:=qs3 s.data.toList
  constructor
  ·rintro ⟨t,ht⟩
   rw [← ht];rfl
  ·intro h
   rw [h] at hs;exact ⟨bodyT s.data.toList,hs.symm⟩
 refine ⟨_,?_,rfl,hpre⟩;have hs:=qs3 s.data.toList
 by_cases h:negT s.data.toList=true
 ·rw [if_pos h] at hs ⊢
  have e:(s.extract 1 s.size).data.toList=(s.data.toList.drop 1):=by
   rw [ByteArray.data_extract,Array.toList_extract,List.extract_eq_take_drop]
   apply List.take_of_length_le
   simp
  rw [e];generalize s.data.toList=l at *;rw [hs]
  rfl
 ·rw [if_neg h] at hs ⊢
  exact hs
theorem q11 (s:ByteArray) (w:World) :
  Calls prog 270 #[.string s] w fun e w'=>(∃ b:ByteArray,b.data.toList=bodyT s.data.toList∧e=.returned (.tuple #[.string b,.bool (negT s.data.toList)]))∧w=w':=by
 obtain ⟨b,hb,he,hp⟩:=q14 s;have HB:=hj_ hb;clear hb
 cases hn:negT s.data.toList
 ·have H:=hj_ (hp.trans hn)
  rw [hn] at he;have HE:=hj_ he;clear hp hn he
  go_enter func270,ntmps270
  go_wp2_with (go_at_call 310;refine (q45 s _ _ H.out).mono ?_;rintro r w1 ⟨rfl,rfl⟩);go_ret2;exact ⟨⟨b,HB.out,by rw [HE.out];rfl⟩,rfl⟩
 ·have H:=hj_ (hp.trans hn)
  rw [hn] at he;have HE:=hj_ he;clear hp hn he
  go_enter func270,ntmps270
  go_wp2_with (go_at_call 310;refine (q46 s _ _ H.out).mono ?_;rintro r w1 ⟨rfl,rfl⟩);go_ret2;exact ⟨⟨b,HB.out,by rw [HE.out];rfl⟩,rfl⟩
end Go.Proofs.YtabhjdmmfdfpeaaGreatDoor
