/- Lemmas. -/
import Derived.Test.YtabhjdmmfdfpeaaGreatDoorKProD
namespace Go.Proofs.YtabhjdmmfdfpeaaGreatDoor
set_option maxHeartbeats 32000000
open _root_.Go.Proofs.Tryz
open Go.RowKit
variable {a:Act} {f x:Fea} {foot:Int} {l:List Fea} {rest:List Oper} {b r:Nat} {o:Oper} {P:Program} {et kt t:TypeId} {v:Value} {w w':World}
def findL {κ:Type} [DecidableEq κ]:List (κ × Value)→κ→Nat→Option (Nat × Value)
 | [],_,_=>none
 | (a,v) :: l,k,i=>if k=a then some (i,v) else findL l k (i+1)
def lookL {κ:Type} [DecidableEq κ] (l:List (κ × Value)) (k:κ):Option Value:=(findL l k 0).map (·.2)
structure KeyTy {κ:Type} [DecidableEq κ] (P:Program) (kt:TypeId) (enc:κ→Value):Prop where
 check:∀ a e w,(Instr.checkKey e 10000 kt (enc a)).run P w=.ok () w
 find:∀ (l:List MapEntry) (L:List (κ × Value)) (k:κ) w,l.map (fun e=>(e.key,e.val))=L.map (fun x=>(enc x.1,x.2))→(Instr.findKey kt (enc k) l).run P w=.ok (findL L k 0) w
theorem q82 {κ:Type} [DecidableEq κ] {d:TypeDesc} {enc:κ→Value} (h:∀ a b,Instr.sameNow d (enc a) (enc b)=some (decide (a=b))) (k:κ) :
  ∀ (l:List MapEntry) (L:List (κ × Value)) (i:Nat),l.map (fun e=>(e.key,e.val))=L.map (fun x=>(enc x.1,x.2))→Instr.findNow d (enc k) l i=some (findL L k i)
 | [],[],_,_=>rfl
 | [],_ :: _,_,h=>by simp at h
 | _ :: _,[],_,h=>by simp at h
 | e :: l,(a,v) :: L,i,hL=>by
  simp only [List.map_cons,List.cons.injEq,Prod.mk.injEq] at hL;obtain ⟨⟨h1,h2⟩,h3⟩:=hL;rw [Instr.findNow,h1,h,findL]
  by_cases hk:k=a
  ·simp [hk,h2]
  ·simp only [hk,decide_false,if_false]
   exact q82 h k l L (i+1) h3
theorem KeyTy.of_now {κ:Type} [DecidableEq κ] {d:TypeDesc} {enc:κ→Value} (hd:P.underlying kt=some d) (hi:∀ a,MapKept.IsKey d (enc a)) (h:∀ a b,Instr.sameNow d (enc a) (enc b)=some (decide (a=b))):KeyTy P kt enc :=
 ⟨fun a e _=>MapKept.run_checkKey hd (hi a) e 9999,fun l L k _ hL=>MapKept.run_findKey hd (q82 h k l L 0 hL)⟩
theorem KeyTy.int (hd:P.underlying kt=some (.int .i64)):KeyTy P kt (fun x:Int=>Value.int .i64 x) :=
 .of_now hd (fun _=>rfl) fun a b=>by
  simp only [Instr.sameNow,if_true]
  by_cases h:a=b <;> simp [h]
theorem KeyTy.str (hd:P.underlying kt=some .string):KeyTy P kt (fun x:ByteArray=>Value.string x) :=
 .of_now hd (fun _=>trivial) fun a b=>by
  simp only [Instr.sameNow]
  by_cases h:a=b
  ·exact congrArg some (((MapKept.bytes_beq a b).2 h).trans (decide_eq_true h).symm)
  ·have:(a == b)=false:=by
    cases e:a == b with
    | true=>exact absurd ((MapKept.bytes_beq a b).1 e) h
    | false=>rfl
   simp [this,h]
def MapAt {κ:Type} (enc:κ→Value) (w:World) (b:Nat) (L:List (κ × Value)):Prop :=
 ∃ es clock,w.heap[b]? = some (.map es clock)∧es.toList.map (fun e:MapEntry=>(e.key,e.val))=L.map (fun x=>(enc x.1,x.2))
theorem MapAt.lt {κ:Type} {enc:κ→Value} {L:List (κ × Value)} (h:MapAt enc w b L):b<w.heap.size:=by
 obtain ⟨es,cl,hb,_⟩:=h
 rcases Nat.lt_or_ge b w.heap.size with h | h
 ·exact h
 ·rw [Array.getElem?_eq_none h] at hb;cases hb
theorem MapAt.made {κ:Type} (enc:κ→Value) (w:World):MapAt enc (w.alloc (.map #[] 0)) w.heap.size [] :=
 ⟨#[],0,(MapKept.heap_alloc w _).1,rfl⟩
theorem MapAt.keep {κ:Type} {enc:κ→Value} {L:List (κ × Value)} (h:MapAt enc w b L) (hk:w'.heap[b]? = w.heap[b]?):MapAt enc w' b L:=by
 obtain ⟨es,cl,hb,hL⟩:=h;exact ⟨es,cl,hk.trans hb,hL⟩
theorem MapAt.grown {κ:Type} {enc:κ→Value} {L:List (κ × Value)} {row:Option Nat} (h:MapAt enc w b L) (hg:w.grownBy w' row) (hne:some b≠row):MapAt enc w' b L :=
 h.keep (hg.block b h.lt hne)
def lookV {κ:Type} [DecidableEq κ] (ok:Bool) (L:List (κ × Value)) (k:κ) (z:Value):Value :=
 if ok then .tuple #[(lookL L k).getD z,.bool (lookL L k).isSome] else (lookL L k).getD z
theorem qnx {κ:Type} [DecidableEq κ] {enc:κ→Value} {L:List (κ × Value)} (hm:P.underlying t=some (.map kt et)) (K:KeyTy P kt enc) (hM:MapAt enc w b L) (k:κ) {z:Value} (hz:(zeroValue et).run P w=.ok z w) (ok:Bool) :
  (Instr.lookup t (.map (some b)) (enc k) ok).run P w=.ok (lookV ok L k z) w:=by
 obtain ⟨es,cl,hb,hL⟩:=hM;have hf:=K.find es.toList L k w hL;unfold lookV lookL
 cases hr:findL L k 0 with
 | none=>rw [hr] at hf;cases ok <;> simp [Instr.lookup,run_underlying hm,MapKept.run_getObj_map hb,K.check,hf,hz,Result.andThen]
 | some x=>obtain ⟨i,v⟩:=x;rw [hr] at hf;cases ok <;> simp [Instr.lookup,run_underlying hm,MapKept.run_getObj_map hb,K.check,hf,Result.andThen]
theorem qo0 {κ:Type} [DecidableEq κ] {enc:κ→Value} {L:List (κ × Value)} (hm:P.underlying t=some (.map kt et)) (K:KeyTy P kt enc) (hM:MapAt enc w b L) (k:κ) (v:Value) (hn:lookL L k=none) :
  ∃ w',(Instr.mapUpdate t (.map (some b)) (enc k) v).run P w=.ok () w'∧MapAt enc w' b (L ++ [(k,v)])∧w.grownBy w' (some b):=by
 obtain ⟨es,cl,hb,hL⟩:=hM;have hf:=K.find es.toList L k w hL;have hr:findL L k 0=none:=by unfold lookL at hn;cases h:findL L k 0 with
  | none=>rfl
  | some x=>rw [h] at hn;cases hn
 rw [hr] at hf;obtain ⟨h1,h2⟩:=map_set (o':=.map (es.push { key:=enc k,val:=v,born:=cl }) (cl+1)) hb _ rfl;refine ⟨_,?_,⟨_,_,h1,?_⟩,h2⟩
 ·simp [Instr.mapUpdate,run_underlying hm,MapKept.run_getObj_map hb,K.check,hf,MapKept.run_setObj_map _ hb,Result.andThen]
 ·rw [Array.toList_push,List.map_append,List.map_append,hL];rfl
theorem q002 {κ:Type} [DecidableEq κ] (w:World) {ops:Array Oper} {Q:Exit→Act→World→Prop}
  (hg:o.guard=none) (m x:Operand) (t:TypeId) (ok:Bool) (hop:o.op=Op.lookup t m x ok) (kt et:TypeId) (hm:P.underlying t=some (.map kt et)) (enc:κ→Value) (K:KeyTy P kt enc) (b:Nat) (L:List (κ × Value)) (k:κ)
  (he:a.eval m=.map (some b)) (hx:a.eval x=enc k) (hM:MapAt enc w b L) (z:Value) (hz:(zeroValue et).run P w=.ok z w)
  (hK:wpList P ops Q rest (a.put o.dst (lookV ok L k z)) w):wpList P ops Q (o :: rest) a w:=by
 refine wpList_plain hg fun K' hK'=>?_
 have hrun:=qnx hm K hM k hz ok;unfold Oper.wp;simp [execOp,hop,he,hx,hrun,Result.andThen];exact hK' _ _ hK
theorem q004 {κ:Type} [DecidableEq κ] (w:World) {ops:Array Oper} {Q:Exit→Act→World→Prop}
  (hg:o.guard=none) (m x v:Operand) (t:TypeId) (hop:o.op=Op.mapUpdate t m x v) (kt et:TypeId) (hm:P.underlying t=some (.map kt et)) (enc:κ→Value) (K:KeyTy P kt enc) (b:Nat) (L:List (κ × Value)) (k:κ) (val:Value)
  (he:a.eval m=.map (some b)) (hx:a.eval x=enc k) (hv:a.eval v=val) (hM:MapAt enc w b L) (hn:lookL L k=none)
  (hK:∀ w',MapAt enc w' b (L ++ [(k,val)])→w.grownBy w' (some b)→wpList P ops Q rest (a.put o.dst undef) w'):wpList P ops Q (o :: rest) a w:=by
 refine wpList_plain hg fun K' hK'=>?_
 obtain ⟨w',hrun,h1,h2⟩:=qo0 hm K hM k val hn;unfold Oper.wp;simp [execOp,hop,he,hx,hv,hrun,Result.andThen];exact hK' _ _ (hK w' h1 h2)
theorem q81 {κ:Type} [DecidableEq κ] {l:List (κ × Value)} {a k:κ}:∀ {i:Nat},findL (l ++ [(a,v)]) k i=(findL l k i).or (if k=a then some (i+l.length,v) else none):=by
 induction l with
 | nil=>intro i;simp [findL]
 | cons x l ih =>
  intro i;obtain ⟨b,u⟩:=x;simp only [List.cons_append,findL]
  by_cases h:k=b
  ·simp [h]
  ·simp only [h,if_false,ih,List.length_cons]
   rw [show i+1+l.length=i+(l.length+1) by omega]
theorem qd5 {κ:Type} [DecidableEq κ] (k:κ):lookL ([]:List (κ × Value)) k=none:=rfl
theorem qd4 {κ:Type} [DecidableEq κ] {l:List (κ × Value)} {a k:κ}:lookL (l ++ [(a,v)]) k=(lookL l k).or (if k=a then some v else none):=by
 unfold lookL;rw [q81]
 cases findL l k 0 with
 | none=>by_cases h:k=a <;> simp [h]
 | some x=>simp
def setL {κ:Type} (l:List κ):List (κ × Value):=l.map fun k=>(k,.bool true)
theorem qd6 {κ:Type} [DecidableEq κ] (k:κ):∀ (l:List κ),lookL (setL l) k=if k ∈ l then some (.bool true) else none:=by
 intro l;unfold lookL
 suffices h:∀ (l:List κ) (i:Nat),(findL (setL l) k i).map (·.2)=if k ∈ l then some (.bool true) else none from h l 0
 intro l
 induction l with
 | nil=>intro i;rfl
 | cons a l ih =>
  intro i;have h:=ih (i+1);unfold setL at h ⊢;simp only [List.map_cons,findL]
  by_cases hk:k=a
  ·simp [hk]
  ·simp only [hk,if_false,List.mem_cons,false_or]
   exact h
theorem qpf {κ:Type} (l:List κ) (k:κ):setL l ++ [(k,.bool true)]=setL (l ++ [k]):=by unfold setL;simp
theorem qd8 {κ:Type} [DecidableEq κ] (l:List κ) (k:κ):lookV false (setL l) k (.bool false)=.bool (decide (k ∈ l)):=by
 unfold lookV;rw [qd6]
 by_cases h:k ∈ l <;> simp [h]
def offsL (f:Fea):List Int:=if f.bits=16 then [f.co,f.fi] else [f.co]
def usedL (l:List Fea):List Int:=l.flatMap offsL
theorem qdw {o:Int}:o ∈ offsL f↔(f.co=o∨f.bits=16∧f.fi=o):=by
 unfold offsL
 by_cases h:f.bits=16
 ·simp only [h,if_true,List.mem_cons,List.not_mem_nil,or_false,true_and]
  exact ⟨fun h=>h.elim (fun h=>.inl h.symm) fun h=>.inr h.symm,fun h=>h.elim (fun h=>.inl h.symm) fun h=>.inr h.symm⟩
 ·simp only [h,if_false,List.mem_cons,List.not_mem_nil,or_false,false_and]
  exact ⟨fun h=>h.symm,fun h=>h.symm⟩
theorem qdx {o:Int}:o ∈ usedL l↔usedB l o=true:=by
 unfold usedL usedB;rw [List.mem_flatMap,List.any_eq_true]
 constructor
 ·rintro ⟨f,hf,ho⟩
  refine ⟨f,hf,?_⟩
  rcases qdw.1 ho with h | ⟨h1,h2⟩
  ·simp [h]
  ·simp [h1,h2]
 ·rintro ⟨f,hf,ho⟩
  refine ⟨f,hf,qdw.2 ?_⟩
  simpa using ho
theorem qyo:usedL (l ++ [f])=usedL l ++ offsL f:=by unfold usedL;simp
def firstB:List (Bool × Int)→Int
 | []=>0
 | (b,e) :: t=>if b then e else firstB t
def feaBs (l:List Fea) (x:Fea) (foot:Int):List (Bool × Int) :=
 [(decide (x.at_<0∨15≤x.at_),1),(decide (x.at_ ∈ l.map Fea.at_),7),(decide (bitsV x.bits≠0),1),((offsL x).any fun o=>decide (o<0∨foot≤o),2),(decide (x.bits=8∧x.fi≠0),3),((offsL x).any fun o=>decide (o ∈ usedL l),11),(decide (x.bits=16∧x.fi=x.co),11)]
theorem q7g (l:List Fea) (foot:Int) (n i:Nat) :
  feaE l foot n i=if firstB (feaBs (l.take i) (l.getD i fea0) foot)≠0 then firstB (feaBs (l.take i) (l.getD i fea0) foot) else innerE (l.getD i fea0) n:=by
 unfold feaE;generalize l.getD i fea0=x;generalize l.take i=t;unfold feaBs
 by_cases h1:x.at_<0∨15≤x.at_
 ·rw [if_pos h1];simp [firstB,h1]
 rw [if_neg h1];have e2:(t.any fun y=>decide (y.at_=x.at_))=decide (x.at_ ∈ t.map Fea.at_):=by
  rw [Bool.eq_iff_iff,List.any_eq_true,decide_eq_true_iff,List.mem_map];simp
 rw [e2]
 by_cases h2:x.at_ ∈ t.map Fea.at_
 ·rw [if_pos (decide_eq_true h2)];simp only [firstB,decide_eq_false h1,decide_eq_true h2];rfl
 rw [if_neg (by rw [decide_eq_false h2];exact Bool.false_ne_true)]
 unfold bitsE
 by_cases h3:bitsV x.bits≠0
 ·rw [if_pos h3];simp only [firstB,decide_eq_false h1,decide_eq_false h2,decide_eq_true h3];rfl
 rw [if_neg h3];have hb:x.bits=8∨x.bits=16:=by
  unfold bitsV at h3
  by_cases h:x.bits≠8∧x.bits≠16
  ·rw [if_pos h] at h3;exact absurd d_ h3
  ·omega
 have e4:((offsL x).any fun o=>decide (o<0∨foot≤o))=decide (x.co<0∨foot≤x.co∨x.bits=16∧(x.fi<0∨foot≤x.fi)):=by
  rw [Bool.eq_iff_iff,List.any_eq_true,decide_eq_true_iff]
  constructor
  ·rintro ⟨o,ho,h⟩
   have h:=of_decide_eq_true h
   rcases qdw.1 ho with e | ⟨e1,e⟩
   ·rw [← e] at h;omega
   ·rw [← e] at h;omega
  ·intro h
   by_cases h6:x.bits=16∧(x.fi<0∨foot≤x.fi)
   ·exact ⟨x.fi,qdw.2 (.inr ⟨h6.1,rfl⟩),decide_eq_true h6.2⟩
   ·exact ⟨x.co,qdw.2 (.inl rfl),decide_eq_true o_⟩
 rw [e4]
 by_cases h4:x.co<0∨foot≤x.co∨x.bits=16∧(x.fi<0∨foot≤x.fi)
 ·rw [if_pos h4];simp only [firstB,decide_eq_false h1,decide_eq_false h2,decide_eq_false h3,decide_eq_true h4];rfl
 rw [if_neg h4]
 by_cases h5:x.bits=8∧x.fi≠0
 ·rw [if_pos h5];simp only [firstB,decide_eq_false h1,decide_eq_false h2,decide_eq_false h3,decide_eq_false h4,decide_eq_true h5];rfl
 rw [if_neg h5];have e6:((offsL x).any fun o=>decide (o ∈ usedL t))=decide (usedB t x.co=true∨x.bits=16∧usedB t x.fi=true):=by
  rw [Bool.eq_iff_iff,List.any_eq_true,decide_eq_true_iff]
  constructor
  ·rintro ⟨o,ho,h⟩
   have h:=qdx.1 (of_decide_eq_true h)
   rcases qdw.1 ho with e | ⟨e1,e⟩
   ·rw [← e] at h;exact .inl h
   ·rw [← e] at h;exact .inr ⟨e1,h⟩
  ·rintro (h | ⟨h1,h⟩)
   ·exact ⟨x.co,qdw.2 (.inl rfl),decide_eq_true (qdx.2 h)⟩
   ·exact ⟨x.fi,qdw.2 (.inr ⟨h1,rfl⟩),decide_eq_true (qdx.2 h)⟩
 rw [e6]
 by_cases h6:usedB t x.co=true∨x.bits=16∧usedB t x.fi=true
 ·rw [if_pos (by rcases h6 with h | ⟨h,h'⟩;exact .inl h;exact .inr ⟨h,.inl h'⟩)]
  simp only [firstB,decide_eq_false h1,decide_eq_false h2,decide_eq_false h3,decide_eq_false h4,decide_eq_false h5,decide_eq_true h6];rfl
 by_cases h7:x.bits=16∧x.fi=x.co
 ·rw [if_pos (.inr ⟨h7.1,.inr h7.2⟩)]
  simp only [firstB,decide_eq_false h1,decide_eq_false h2,decide_eq_false h3,decide_eq_false h4,decide_eq_false h5,decide_eq_false h6,decide_eq_true h7];rfl
 rw [if_neg (by rintro (h | ⟨h,h' | h'⟩);exact h6 (.inl h);exact h6 (.inr ⟨h,h'⟩);exact h7 ⟨h,h'⟩)]
 simp only [firstB,decide_eq_false h1,decide_eq_false h2,decide_eq_false h3,decide_eq_false h4,decide_eq_false h5,decide_eq_false h6,decide_eq_false h7];rfl
theorem q84 {b:Bool} {e:Int} {t:List (Bool × Int)} (he:e≠0) (h:firstB ((b,e) :: t)=0):b=false∧firstB t=0:=by
 cases b with
 | true=>exact absurd h he
 | false=>exact ⟨rfl,h⟩
theorem q7h (h:firstB (feaBs l x foot)=0):x.at_ ∉ l.map Fea.at_∧(x.bits=8∨x.bits=16)∧x.co ∉ usedL l∧(x.bits=16→x.fi ∉ usedL l∧x.fi≠x.co):=by
 unfold feaBs at h;obtain ⟨-,h⟩:=q84 d_ h
 obtain ⟨h2,h⟩:=q84 d_ h
 obtain ⟨h3,h⟩:=q84 d_ h
 obtain ⟨-,h⟩:=q84 d_ h
 obtain ⟨-,h⟩:=q84 d_ h
 obtain ⟨h6,h⟩:=q84 d_ h
 obtain ⟨h7,-⟩:=q84 d_ h
 have h2:=of_decide_eq_false h2;have h3:=of_decide_eq_false h3;have h7:=of_decide_eq_false h7;have hn:∀ o,o ∈ offsL x→o ∉ usedL l:=fun o ho hu=>by
  have:=(List.any_eq_false.1 h6) o ho
  simp [hu] at this
 refine ⟨h2,?_,hn _ (qdw.2 (.inl rfl)),fun e=>⟨hn _ (qdw.2 (.inr ⟨e,rfl⟩)),fun e2=>h7 ⟨e,e2⟩⟩⟩
 unfold bitsV at h3
 by_cases h:x.bits≠8∧x.bits≠16
 ·rw [if_pos h] at h3;exact absurd d_ h3
 ·omega
theorem MapAt.below {κ:Type} {enc:κ→Value} {L:List (κ × Value)} (h:MapAt enc w b L) (hb:Below w.heap.size w w'):MapAt enc w' b L:=h.keep (hb.block b h.lt)
theorem qbp (g:Nat) (cb:Array Value) (p:Int→Bool) (A:Option Addr) (n c:Nat) (l:List Int) (w:World) (eg:∀ args w,(callFunc g args).run prog w=.ok (.enter g args) w) (hl:Is w A n l) (hn:n≤9223372036854775807)
  (hf:∀ i (h:i<l.length) (W:World),Below w.heap.size w W→Calls prog g (#[.int .i64 l[i]] ++ cb) W fun e w'=>e=.returned (.bool (p l[i]))∧Below W.heap.size W w') :
  Rt 271 #[.slice A n c,.func (.func g) #[] cb] w (.int .i64 (idxOf p l)):=by
 obtain ⟨rfl,_⟩:=id hl;have HL:=hj_ hl;have HF:=hj_ hf;have hB:=Below.refl w.heap.size w;obtain ⟨E,hE⟩:=ex_ (idxOf p l);rw [← hE];have HE:=hj_ hE;clear hl hf hE
 go_enter func271,ntmps271
 go_wp2_with fail
 go_loopw [8] (fun iv wr=>∃ k:Nat,k≤l.length∧iv=.int .i64 k∧(∀ j (h:j<l.length),j<k→p l[j]=false)∧Below w.heap.size w wr) (fun iv _=>l.length-(intOf iv).toNat)
 case atStart=>exact ⟨0,Nat.zero_le _,rfl,fun j _ h=>absurd h (Nat.not_lt_zero _),br_⟩
 case round =>
  obtain ⟨k,hk,rfl,hall,hBr⟩:=hrel;have HAll:=hj_ hall;clear hall
  by_cases hlt:k<l.length
  ·obtain ⟨b,o,rfl,hbl,p0⟩:=(HL.out.below hBr).at1 hlt
   have hc:=HF.out k hlt wr hBr;have HY:=hj_ (show p l[k]=true→E=k from fun h=>HE.out.trans (qbd hlt (fun i hi=>HAll.out i o_ hi) h))
   have HN:=hj_ (show p l[k]=false→∀ j (h:j<l.length),j<k+1→p l[j]=false from fun h j hj hjk=>by
    rcases Nat.lt_or_eq_of_le (Nat.le_of_lt_succ hjk) with h1 | h1
    ·exact HAll.out j hj h1
    ·subst h1;exact h)
   have i0:(0:Int)≤(k:Int):=o_
   have i1:(k:Int)<(l.length:Int):=o_
   have HBr:=hj_ hBr;clear hBr;generalize l[k]=x at *
   cases hb:p x with
   | true =>
    have hee:E=k:=HY.out hb;rw [hb] at hc;subst hee;clear hb;go_wp2_with (go_at_fn g;refine hc.mono ?_;rintro e w' ⟨rfl,hb⟩;have hB:=ht_ HBr.out hb);go_ret;exact ⟨rfl,hB⟩
   | false =>
    have hn1:=HN.out hb;have HN1:=hj_ hn1;rw [hb] at hc;clear hb hn1;go_wp2_with (go_at_fn g;refine hc.mono ?_;rintro e w' ⟨rfl,hb⟩;have hB:=ht_ HBr.out hb)
    go_roundw
    case rel=>exact ⟨k+1,o_,by go_num,HN1.out,hB⟩
    case measure=>simp [intOf];omega
  ·obtain rfl:k=l.length:=by omega
   have hE0:E=-1:=HE.out.trans (qbc fun i h=>HAll.out i h h)
   subst hE0;go_wp2_with fail;go_ret;exact ⟨rfl,hBr⟩
theorem q3v (g:Nat) (cb:Array Value) (p:Int→Bool) (A:Option Addr) (n c:Nat) (l:List Int) (w:World) (eg:∀ args w,(callFunc g args).run prog w=.ok (.enter g args) w) (hl:Is w A n l) (hn:n≤9223372036854775807)
  (hf:∀ i (h:i<l.length) (W:World),Below w.heap.size w W→Calls prog g (#[.int .i64 l[i]] ++ cb) W fun e w'=>e=.returned (.bool (p l[i]))∧Below W.heap.size W w') :
  Rt 215 #[.slice A n c,.func (.func g) #[] cb] w (.bool (l.any p)):=by
 have HI:=hj_ (qbp g cb p A n c l w eg hl hn hf);have hB:=Below.refl w.heap.size w;rw [← qbe];generalize idxOf p l=E at *;clear hf eg hl
 go_enter func215,ntmps215
 go_wp2_with fail;refine HI.out.mono ?_;rintro e wk ⟨rfl,hb⟩;go_wp2_with fail;go_ret;exact ⟨rfl,hb⟩
theorem qf5 (f:Fea):(offsL f).length≤2:=by
 unfold offsL
 by_cases h:f.bits=16
 ·rw [if_pos h];exact Nat.le_refl 2
 ·rw [if_neg h];exact Nat.le_succ 1
theorem qi4 (f:FC) (w:World) :
  Calls prog 216 #[f.val] w fun e w'=>∃ b n2 c2,e=.returned (.slice (some ⟨b,0,none⟩) n2 c2)∧w.heap.size≤b∧Is w' (some ⟨b,0,none⟩) n2 (offsL (f.fea []))∧Below w.heap.size w w':=by
 obtain ⟨at_,bits,co,fi,cu,ho,lo,hi,sn,A,n,c⟩:=f
 show Calls prog 216 #[.agg #[.int .i64 at_,.int .i64 bits,.int .i64 co,.int .i64 fi,.int .i64 cu,.int .i64 ho,.int .i64 lo,.int .i64 hi,.bool sn,.slice A n c]] w fun e w'=>∃ b n2 c2,e=.returned (.slice (some ⟨b,0,none⟩) n2 c2)∧w.heap.size≤b∧Is w' (some ⟨b,0,none⟩) n2 (offsL (FC.fea ⟨at_,bits,co,fi,cu,ho,lo,hi,sn,A,n,c⟩ []))∧Below w.heap.size w w'
 obtain ⟨W,hW⟩:=ex_ (w.alloc (.cells #[.int .i64 at_,.int .i64 bits,.int .i64 co,.int .i64 fi,.int .i64 cu,.int .i64 ho,.int .i64 lo,.int .i64 hi,.bool sn,.slice A n c] 114))
 obtain ⟨hB0,hK⟩:=fbox at_ bits co fi cu ho lo hi sn A n c w W hW
 have HK:=hj_ hK;have HW:=hj_ hW;have HB0:=hj_ hB0;have hB:=Below.refl W.heap.size W;obtain ⟨c0,c1,c2,c3,c4,c5,c6,c7,c8,c9⟩:=hK W hB;clear hW hB0 hK
 by_cases h16:bits=16
 ·have ho:offsL (FC.fea ⟨at_,bits,co,fi,cu,ho,lo,hi,sn,A,n,c⟩ [])=[co,fi]:=by unfold offsL FC.fea;exact if_pos h16
  rw [ho];subst h16
  go_enter func216,ntmps216
  go_wp2_with fail
  try rw [← HW.out]
  go_ret;exact ⟨_,_,_,rfl,o_,Is.lit _ [co,fi] 3 _ (by rw [HW.out];simp),HB0.out.trans ((hB.alloc hB.size _).mono HB0.out.size)⟩
 ·have ho:offsL (FC.fea ⟨at_,bits,co,fi,cu,ho,lo,hi,sn,A,n,c⟩ [])=[co]:=by unfold offsL FC.fea;exact if_neg h16
  rw [ho];have g1:(bits == 16)=false:=by simpa using h16
  go_enter func216,ntmps216
  go_wp2_with fail
  try rw [← HW.out]
  go_ret;exact ⟨_,_,_,rfl,o_,Is.lit _ [co] 3 _ (by rw [HW.out];simp),HB0.out.trans ((hB.alloc hB.size _).mono HB0.out.size)⟩
theorem qi3 (f:FC) (w:World) :
  Calls prog 216 #[f.val] w fun e w'=>∃ A2 n2 c2,e=.returned (.slice A2 n2 c2)∧Is w' A2 n2 (offsL (f.fea []))∧Below w.heap.size w w':=by
 refine (qi4 f w).mono ?_;rintro e w' ⟨b,n2,c2,h1,_,h2,h3⟩;exact ⟨_,_,_,h1,h2,h3⟩
def FCells (w:World) (P:Nat) (f:FC):Prop:=w.cell? ⟨P,0,none⟩=some (.int .i64 f.at_)∧w.cell? ⟨P,1,none⟩=some (.int .i64 f.bits)∧w.cell? ⟨P,2,none⟩=some (.int .i64 f.co)∧w.cell? ⟨P,3,none⟩=some (.int .i64 f.fi)∧w.cell? ⟨P,4,none⟩=some (.int .i64 f.cu)∧w.cell? ⟨P,5,none⟩=some (.int .i64 f.ho)∧w.cell? ⟨P,6,none⟩=some (.int .i64 f.lo)∧w.cell? ⟨P,7,none⟩=some (.int .i64 f.hi)∧w.cell? ⟨P,8,none⟩=some (.bool f.sn)∧w.cell? ⟨P,9,none⟩=some (.slice f.A f.n f.c)
theorem FCells.below {P:Nat} {f:FC} (hP:P<w.heap.size) (h:FCells w P f) (hb:Below w.heap.size w w'):FCells w' P f:=by
 obtain ⟨c0,c1,c2,c3,c4,c5,c6,c7,c8,c9⟩:=h;have k:=fun (j:Nat)=>hb.cell (p:=⟨P,j,none⟩) hP
 exact ⟨(k 0).trans c0,(k 1).trans c1,(k 2).trans c2,(k 3).trans c3,(k 4).trans c4,(k 5).trans c5,(k 6).trans c6,(k 7).trans c7,(k 8).trans c8,(k 9).trans c9⟩
theorem qh6 (P:Nat) (at_:Int) (w:World) (c0:w.cell? ⟨P,0,none⟩=some (.int .i64 at_)) :
  Rt 210 #[.pointer (some ⟨P,0,none⟩)] w (.bool (decide (at_<0∨15≤at_))):=by
 have hB:=Below.refl w.heap.size w;rw [show decide (at_<0∨15≤at_)=(decide (at_<0) || decide (15≤at_)) by simp]
 by_cases h1:at_<0
 ·rw [decide_eq_true h1]
  go_enter func210,ntmps210
  go_wp2_with fail
  try (go_quiet (fail);go_wp2)
  go_ret;exact ⟨ret_b s_,bz_⟩
 ·have hd:=decide_eq_false h1
  rw [hd]
  go_enter func210,ntmps210
  go_wp2_with fail
  try (go_quiet (fail);go_wp2)
  go_ret;exact ⟨ret_b s_,bz_⟩
theorem qh7 (P Q ba:Nat) (at_:Int) (K:List Int) (w:World) (c0:w.cell? ⟨P,0,none⟩=some (.int .i64 at_)) (cm:w.cell? ⟨Q,0,none⟩=some (.map (some ba))) (hM:MapAt (fun x:Int=>Value.int .i64 x) w ba (setL K)) :
  Rt 211 #[.pointer (some ⟨Q,0,none⟩),.pointer (some ⟨P,0,none⟩)] w (.bool (decide (at_ ∈ K))):=by
 have hB:=Below.refl w.heap.size w;have HM:=hj_ hM;clear hM
 go_enter func211,ntmps211
 go_wp2_with (at_lookup;refine q002 _ rfl _ _ _ _ rfl _ _ underlying274 _ (KeyTy.int underlying3) ba (setL K) at_ rfl rfl HM.out (.bool false) s_ ?_;rw [qd8])
 go_ret;exact ⟨rfl,hB⟩
theorem qh8 (P:Nat) (f:FC) (w:World) (h:FCells w P f) :
  Rt 212 #[.pointer (some ⟨P,0,none⟩)] w (.bool (decide (bitsV f.bits≠0))):=by
 have hB:=Below.refl w.heap.size w;have HBi:=hj_ (fun w=>qgs f w)
 obtain ⟨at_,bits,co,fi,cu,ho,lo,hi,sn,A,n,c⟩:=f
 obtain ⟨c0,c1,c2,c3,c4,c5,c6,c7,c8,c9⟩:=h;replace HBi:=hj_ (show ∀ w,Rt 213 #[.agg #[.int .i64 at_,.int .i64 bits,.int .i64 co,.int .i64 fi,.int .i64 cu,.int .i64 ho,.int .i64 lo,.int .i64 hi,.bool sn,.slice A n c]] w (.int .i64 (bitsV bits)) from HBi.out)
 have hd:decide (bitsV bits≠0)=(bitsV bits != 0):=by rw [Bool.eq_iff_iff];simp
 show Rt 212 #[.pointer (some ⟨P,0,none⟩)] w (.bool (decide (bitsV bits≠0)))
 rw [hd];generalize bitsV bits=q at *
 go_enter func212,ntmps212
 go_wp2_with fail;refine uq_ (HBi.out _) hB fun wk hB=>?_;go_wp2_with fail;go_ret;exact ⟨ret_b s_,hB⟩
theorem qh9 (Q:Nat) (o foot:Int) (w:World) (cf:w.cell? ⟨Q,1,none⟩=some (.int .i64 foot)) :
  Rt 217 #[.int .i64 o,.pointer (some ⟨Q,0,none⟩)] w (.bool (decide (o<0∨foot≤o))):=by
 have hB:=Below.refl w.heap.size w;rw [show decide (o<0∨foot≤o)=(decide (o<0) || decide (foot≤o)) by simp]
 by_cases h1:o<0
 ·rw [decide_eq_true h1]
  go_enter func217,ntmps217
  go_wp2_with fail
  try (go_quiet (fail);go_wp2)
  go_ret;exact ⟨ret_b s_,bz_⟩
 ·have hd:=decide_eq_false h1
  rw [hd]
  go_enter func217,ntmps217
  go_wp2_with fail
  try (go_quiet (fail);go_wp2)
  go_ret;exact ⟨ret_b s_,bz_⟩
theorem qhc (Q bu:Nat) (o:Int) (K:List Int) (w:World) (cm:w.cell? ⟨Q,0,none⟩=some (.map (some bu))) (hM:MapAt (fun x:Int=>Value.int .i64 x) w bu (setL K)) :
  Rt 220 #[.int .i64 o,.pointer (some ⟨Q,0,none⟩)] w (.bool (decide (o ∈ K))):=by
 have hB:=Below.refl w.heap.size w;have HM:=hj_ hM;clear hM
 go_enter func220,ntmps220
 go_wp2_with (at_lookup;refine q002 _ rfl _ _ _ _ rfl _ _ underlying274 _ (KeyTy.int underlying3) bu (setL K) o rfl rfl HM.out (.bool false) s_ ?_;rw [qd8])
 go_ret;exact ⟨rfl,hB⟩
theorem qha (P Q:Nat) (f:FC) (foot:Int) (w:World) (h:FCells w P f) (hQ:Q<w.heap.size) (cf:w.cell? ⟨Q,1,none⟩=some (.int .i64 foot)) :
  Rt 214 #[.pointer (some ⟨P,0,none⟩),.pointer (some ⟨Q,0,none⟩)] w (.bool ((offsL (f.fea [])).any fun o=>decide (o<0∨foot≤o))):=by
 have hB:=Below.refl w.heap.size w;have HO:=hj_ (fun w=>qi3 f w)
 have HC:=hj_ (fun A n c w' (hl:Is w' A n (offsL (f.fea []))) (hw:Below w.heap.size w w')=>q3v 217 #[.pointer (some ⟨Q,0,none⟩)] (fun o=>decide (o<0∨foot≤o)) A n c (offsL (f.fea [])) w' (enters_of func217 k_ rfl) hl (by have:=qf5 (f.fea []);have:=hl.1;omega)
  (fun i h W hW=>qh9 Q _ foot W (((ht_ hw hW).cell (p:=⟨Q,1,none⟩) hQ).trans cf)))
 generalize ((offsL (f.fea [])).any fun o=>decide (o<0∨foot≤o))=q at *
 generalize offsL (f.fea [])=ol at *;obtain ⟨at_,bits,co,fi,cu,ho,lo,hi,sn,A,n,c⟩:=f
 obtain ⟨c0,c1,c2,c3,c4,c5,c6,c7,c8,c9⟩:=h;replace HO:=hj_ (show ∀ w,Calls prog 216 #[.agg #[.int .i64 at_,.int .i64 bits,.int .i64 co,.int .i64 fi,.int .i64 cu,.int .i64 ho,.int .i64 lo,.int .i64 hi,.bool sn,.slice A n c]] w fun e w'=>∃ A2 n2 c2,e=.returned (.slice A2 n2 c2)∧Is w' A2 n2 ol∧Below w.heap.size w w' from HO.out)
 clear hQ
 go_enter func214,ntmps214
 go_wp2_with fail;refine (HO.out _).mono ?_;rintro e wk ⟨A2,n2,d2,rfl,hi2,hb⟩;replace hB:=hb;clear hb;go_wp2_with fail;refine (HC.out _ _ _ _ hi2 hB).mono ?_;rintro e wk ⟨rfl,hb⟩;replace hB:=ht_ hB hb;go_wp2_with fail;go_ret;exact ⟨rfl,hB⟩
theorem qhb (P:Nat) (bits fi:Int) (w:World) (c1:w.cell? ⟨P,1,none⟩=some (.int .i64 bits)) (c3:w.cell? ⟨P,3,none⟩=some (.int .i64 fi)) :
  Rt 218 #[.pointer (some ⟨P,0,none⟩)] w (.bool (decide (bits=8∧fi≠0))):=by
 have hB:=Below.refl w.heap.size w
 by_cases h1:bits=8
 ·subst h1
  rw [show decide ((8:Int)=8∧fi≠0)=(fi != 0) by rw [bne,Bool.eq_iff_iff];simp]
  go_enter func218,ntmps218
  go_wp2_with fail
  try (go_quiet (fail);go_wp2)
  go_ret;exact ⟨ret_b s_,bz_⟩
 ·have g1:(bits == 8)=false:=by simpa using h1
  rw [decide_eq_false (fun h=>h1 h.1)]
  go_enter func218,ntmps218
  go_wp2_with fail
  try (go_quiet (fail);go_wp2)
  go_ret;exact ⟨ret_b s_,bz_⟩
theorem qhd (P Q bu:Nat) (f:FC) (K:List Int) (w:World) (h:FCells w P f) (hQ:Q<w.heap.size) (cm:w.cell? ⟨Q,0,none⟩=some (.map (some bu))) (hM:MapAt (fun x:Int=>Value.int .i64 x) w bu (setL K)) :
  Rt 219 #[.pointer (some ⟨P,0,none⟩),.pointer (some ⟨Q,0,none⟩)] w (.bool ((offsL (f.fea [])).any fun o=>decide (o ∈ K))):=by
 have hB:=Below.refl w.heap.size w;have HO:=hj_ (fun w=>qi3 f w)
 have HC:=hj_ (fun A n c w' (hl:Is w' A n (offsL (f.fea []))) (hw:Below w.heap.size w w')=>q3v 220 #[.pointer (some ⟨Q,0,none⟩)] (fun o=>decide (o ∈ K)) A n c (offsL (f.fea [])) w' (enters_of func220 k_ rfl) hl (by have:=qf5 (f.fea []);have:=hl.1;omega)
  (fun i h W hW=>qhc Q bu _ K W (((ht_ hw hW).cell (p:=⟨Q,0,none⟩) hQ).trans cm) (hM.below (ht_ hw hW))))
 generalize ((offsL (f.fea [])).any fun o=>decide (o ∈ K))=q at *
 generalize offsL (f.fea [])=ol at *;obtain ⟨at_,bits,co,fi,cu,ho,lo,hi,sn,A,n,c⟩:=f
 obtain ⟨c0,c1,c2,c3,c4,c5,c6,c7,c8,c9⟩:=h;replace HO:=hj_ (show ∀ w,Calls prog 216 #[.agg #[.int .i64 at_,.int .i64 bits,.int .i64 co,.int .i64 fi,.int .i64 cu,.int .i64 ho,.int .i64 lo,.int .i64 hi,.bool sn,.slice A n c]] w fun e w'=>∃ A2 n2 c2,e=.returned (.slice A2 n2 c2)∧Is w' A2 n2 ol∧Below w.heap.size w w' from HO.out)
 clear hQ hM cm
 go_enter func219,ntmps219
 go_wp2_with fail;refine (HO.out _).mono ?_;rintro e wk ⟨A2,n2,d2,rfl,hi2,hb⟩;replace hB:=hb;clear hb;go_wp2_with fail;refine (HC.out _ _ _ _ hi2 hB).mono ?_;rintro e wk ⟨rfl,hb⟩;replace hB:=ht_ hB hb;go_wp2_with fail;go_ret;exact ⟨rfl,hB⟩
theorem qhe (P:Nat) (bits co fi:Int) (w:World) (c1:w.cell? ⟨P,1,none⟩=some (.int .i64 bits)) (c2:w.cell? ⟨P,2,none⟩=some (.int .i64 co)) (c3:w.cell? ⟨P,3,none⟩=some (.int .i64 fi)) :
  Rt 221 #[.pointer (some ⟨P,0,none⟩)] w (.bool (decide (bits=16∧fi=co))):=by
 have hB:=Below.refl w.heap.size w
 by_cases h1:bits=16
 ·subst h1
  rw [show decide ((16:Int)=16∧fi=co)=(fi == co) by rw [Bool.eq_iff_iff];simp]
  go_enter func221,ntmps221
  go_wp2_with fail
  try (go_quiet (fail);go_wp2)
  go_ret;exact ⟨ret_b s_,bz_⟩
 ·have g1:(bits == 16)=false:=by simpa using h1
  rw [decide_eq_false (fun h=>h1 h.1)]
  go_enter func221,ntmps221
  go_wp2_with fail
  try (go_quiet (fail);go_wp2)
  go_ret;exact ⟨ret_b s_,bz_⟩
theorem qaf (hg:w.grownBy w' (some r)) {p:Addr} (hp:p.block<w.heap.size) (hne:p.block≠r):w'.cell? p=w.cell? p :=
 World.cell?_of_block (hg.block _ hp (by simpa using hne))
abbrev iK:Int→Value:=fun x=>.int .i64 x
def FeI (s:ByteArray) (ft wa:Int) (A:Option Addr) (n c:Nat) (w wr:World) (S:Nat) (U K:List Int):Prop :=
 Below S w wr∧S+5≤wr.heap.size∧(wr.cell? ⟨S,0,none⟩=some (.string s)∧wr.cell? ⟨S,1,none⟩=some (.int .i64 ft)∧wr.cell? ⟨S,2,none⟩=some (.int .i64 wa)∧wr.cell? ⟨S,3,none⟩=some (.slice A n c)) ∧
 (wr.cell? ⟨S+1+1+1,0,none⟩=some (.map (some (S+1)))∧wr.cell? ⟨S+1+1+1+1,0,none⟩=some (.map (some (S+1+1))))∧MapAt iK wr (S+1) (setL U)∧MapAt iK wr (S+1+1) (setL K)
section
variable {s:ByteArray} {ft wa:Int} {A:Option Addr} {n c:Nat} {w wr w':World} {S:Nat} {U K:List Int}
theorem FeI.below (h:FeI s ft wa A n c w wr S U K) (hb:Below wr.heap.size wr w'):FeI s ft wa A n c w w' S U K:=by
 obtain ⟨h1,h2,⟨a0,a1,a2,a3⟩,⟨m0,m1⟩,hu,hk⟩:=h;have k:=fun (p:Addr) (hp:p.block<S+5)=>hb.cell (p:=p) o_
 exact ⟨h1.trans (hb.mono o_),Nat.le_trans h2 hb.size,⟨(k ⟨S,0,none⟩ (by show S<S+5;omega)).trans a0,(k ⟨S,1,none⟩ (by show S<S+5;omega)).trans a1,(k ⟨S,2,none⟩ (by show S<S+5;omega)).trans a2,(k ⟨S,3,none⟩ (by show S<S+5;omega)).trans a3⟩,
  ⟨(k ⟨S+1+1+1,0,none⟩ (by show S+1+1+1<S+5;omega)).trans m0,(k ⟨S+1+1+1+1,0,none⟩ (by show S+1+1+1+1<S+5;omega)).trans m1⟩,hu.below hb,hk.below hb⟩
theorem FeI.putU (h:FeI s ft wa A n c w wr S U K) {x:Int} (hm:MapAt iK w' (S+1) (setL U ++ [(x,.bool true)])) (hg:wr.grownBy w' (some (S+1))):FeI s ft wa A n c w w' S (U ++ [x]) K:=by
 obtain ⟨h1,h2,⟨a0,a1,a2,a3⟩,⟨m0,m1⟩,hu,hk⟩:=h;have k:=fun (p:Addr) (hp:p.block<S+5) (hne:p.block≠S+1)=>qaf hg (p:=p) o_ hne
 rw [qpf] at hm;exact ⟨h1.grown hg o_ (fun q e=>by cases e;omega),Nat.le_trans h2 hg.size,⟨(k ⟨S,0,none⟩ (by show S<S+5;omega) (by show S≠S+1;omega)).trans a0,(k ⟨S,1,none⟩ (by show S<S+5;omega) (by show S≠S+1;omega)).trans a1,(k ⟨S,2,none⟩ (by show S<S+5;omega) (by show S≠S+1;omega)).trans a2,(k ⟨S,3,none⟩ (by show S<S+5;omega) (by show S≠S+1;omega)).trans a3⟩,
  ⟨(k ⟨S+1+1+1,0,none⟩ (by show S+1+1+1<S+5;omega) (by show S+1+1+1≠S+1;omega)).trans m0,(k ⟨S+1+1+1+1,0,none⟩ (by show S+1+1+1+1<S+5;omega) (by show S+1+1+1+1≠S+1;omega)).trans m1⟩,hm,hk.grown hg s_⟩
theorem FeI.putK (h:FeI s ft wa A n c w wr S U K) {x:Int} (hm:MapAt iK w' (S+1+1) (setL K ++ [(x,.bool true)])) (hg:wr.grownBy w' (some (S+1+1))):FeI s ft wa A n c w w' S U (K ++ [x]):=by
 obtain ⟨h1,h2,⟨a0,a1,a2,a3⟩,⟨m0,m1⟩,hu,hk⟩:=h;have k:=fun (p:Addr) (hp:p.block<S+5) (hne:p.block≠S+1+1)=>qaf hg (p:=p) o_ hne
 rw [qpf] at hm;exact ⟨h1.grown hg o_ (fun q e=>by cases e;omega),Nat.le_trans h2 hg.size,⟨(k ⟨S,0,none⟩ (by show S<S+5;omega) (by show S≠S+1+1;omega)).trans a0,(k ⟨S,1,none⟩ (by show S<S+5;omega) (by show S≠S+1+1;omega)).trans a1,(k ⟨S,2,none⟩ (by show S<S+5;omega) (by show S≠S+1+1;omega)).trans a2,(k ⟨S,3,none⟩ (by show S<S+5;omega) (by show S≠S+1+1;omega)).trans a3⟩,
  ⟨(k ⟨S+1+1+1,0,none⟩ (by show S+1+1+1<S+5;omega) (by show S+1+1+1≠S+1+1;omega)).trans m0,(k ⟨S+1+1+1+1,0,none⟩ (by show S+1+1+1+1<S+5;omega) (by show S+1+1+1+1≠S+1+1;omega)).trans m1⟩,hu.grown hg s_,hm⟩
end
theorem FCells.grown {P:Nat} {f:FC} (h:FCells w P f) (hg:w.grownBy w' (some r)) (hP:P<w.heap.size) (hne:P≠r):FCells w' P f:=by
 obtain ⟨c0,c1,c2,c3,c4,c5,c6,c7,c8,c9⟩:=h;have k:=fun (j:Nat)=>qaf hg (p:=⟨P,j,none⟩) hP hne
 exact ⟨(k 0).trans c0,(k 1).trans c1,(k 2).trans c2,(k 3).trans c3,(k 4).trans c4,(k 5).trans c5,(k 6).trans c6,(k 7).trans c7,(k 8).trans c8,(k 9).trans c9⟩
theorem q8a:∀ (R:List Ru),firstU R=firstB (R.map fun r=>(r.b,r.e))
 | []=>rfl
 | r :: t=>by rw [firstU,List.map_cons,firstB,q8a t]
theorem qf6 (h:firstB (feaBs l x foot)=0):∀ k (hk:k<(offsL x).length),(offsL x)[k] ∉ usedL l ++ (offsL x).take k:=by
 obtain ⟨-,-,h1,h2⟩:=q7h h;intro k hk;unfold offsL at *
 by_cases hb:x.bits=16
 ·obtain ⟨h3,h4⟩:=h2 hb
  simp only [hb,if_true] at hk ⊢
  match k,hk with
  | 0,_=>simpa using h1
  | 1,_=>simp;exact ⟨h3,h4⟩
 ·simp only [hb,if_false] at hk ⊢
  obtain rfl:k=0:=by simp at hk;omega
  simpa using h1
theorem FeI.start (s:ByteArray) (ft wa:Int) (A:Option Addr) (n c:Nat) (w W0:World) (tp tm tn:TypeId)
  (hW:W0=((((w.alloc (.cells #[.string s,.int .i64 ft,.int .i64 wa,.slice A n c] tp)).alloc (.map #[] 0)).alloc (.map #[] 0)).alloc (.cells #[.map (some (w.heap.size+1))] tm)).alloc (.cells #[.map (some (w.heap.size+1+1))] tn)):FeI s ft wa A n c w W0 w.heap.size [] []:=by
 obtain ⟨W1,h1⟩:=ex_ (w.alloc (.cells #[.string s,.int .i64 ft,.int .i64 wa,.slice A n c] tp));rw [← h1] at hW;obtain ⟨W2,h2⟩:=ex_ (W1.alloc (.map #[] 0));rw [← h2] at hW;obtain ⟨W3,h3⟩:=ex_ (W2.alloc (.map #[] 0));rw [← h3] at hW;obtain ⟨W4,h4⟩:=ex_ (W3.alloc (.cells #[.map (some (w.heap.size+1))] tm));rw [← h4] at hW;have s1:W1.heap.size=w.heap.size+1:=by rw [h1];simp
 have s2:W2.heap.size=w.heap.size+1+1:=by rw [h2];simp [s1]
 have s3:W3.heap.size=w.heap.size+1+1+1:=by rw [h3];simp [s2]
 have s4:W4.heap.size=w.heap.size+1+1+1+1:=by rw [h4];simp [s3]
 have s5:W0.heap.size=w.heap.size+5:=by rw [hW];simp [s4]
 have b1:Below w.heap.size w W1:=by rw [h1];exact (br_).alloc lr_ _
 have b2:Below W1.heap.size W1 W2:=by rw [h2];exact (br_).alloc lr_ _
 have b3:Below W2.heap.size W2 W3:=by rw [h3];exact (br_).alloc lr_ _
 have b4:Below W3.heap.size W3 W4:=by rw [h4];exact (br_).alloc lr_ _
 have b5:Below W4.heap.size W4 W0:=by rw [hW];exact (br_).alloc lr_ _
 have d4:=b5;have d3:=ht_ b4 d4;have d2:=ht_ b3 d3;have d1:=ht_ b2 d2;have d0:=ht_ b1 d1;have e1:=fun (j:Nat) (u:Value) (hu:(#[Value.string s,.int .i64 ft,.int .i64 wa,.slice A n c]:Array Value)[j]? = some u)=>(d1.cell (p:=⟨w.heap.size,j,none⟩) (by show w.heap.size<W1.heap.size;omega)).trans (show W1.cell? ⟨w.heap.size,j,none⟩=some u by rw [h1,World.cell?_alloc_new];exact hu)
 have e4:W0.cell? ⟨w.heap.size+1+1+1,0,none⟩=some (.map (some (w.heap.size+1))):=by
  rw [← s3];exact (d4.cell (p:=⟨W3.heap.size,0,none⟩) (by rw [s4,s3];exact Nat.lt_succ_self _)).trans (by rw [h4,World.cell?_alloc_new];rfl)
 have e5:W0.cell? ⟨w.heap.size+1+1+1+1,0,none⟩=some (.map (some (w.heap.size+1+1))):=by
  rw [← s4,hW,World.cell?_alloc_new]
  rfl
 have m2:MapAt iK W0 (w.heap.size+1) (setL []):=by
  have:=MapAt.made iK W1
  rw [← h2,s1] at this;exact this.keep (d2.block _ (by rw [s2];exact Nat.lt_succ_self _))
 have m3:MapAt iK W0 (w.heap.size+1+1) (setL []):=by
  have:=MapAt.made iK W2
  rw [← h3,s2] at this;exact this.keep (d3.block _ (by rw [s3];exact Nat.lt_succ_self _))
 exact ⟨d0,o_,⟨e1 0 _ rfl,e1 1 _ rfl,e1 2 _ rfl,e1 3 _ rfl⟩,⟨e4,e5⟩,m2,m3⟩
set_option maxRecDepth 100000 in
theorem qhf (s:ByteArray) (ft wa:Int) (A:Option Addr) (n c:Nat) (H:List FC) (l:List Fea) (nc:Nat) (w:World) (hl:InF w A n H l) (hn:n≤9223372036854775806) (hw:∀ i (h:i<H.length) (h':i<l.length),FW w H[i] l[i].wh) :
  Rt 156 #[.agg #[.string s,.int .i64 ft,.int .i64 wa,.slice A n c],.int .i64 nc] w (.int .i64 (firstE (feaE l ft nc) l.length)):=by
 have HHl:=hj_ hl.2.1;obtain rfl:n=l.length:=by have:=hl.1.1;have:=hl.2.1;omega
 have HLI:=hj_ hl;have HFW:=hj_ hw;obtain ⟨W0,hW0⟩:=ex_ (((((w.alloc (.cells #[.string s,.int .i64 ft,.int .i64 wa,.slice A l.length c] 87)).alloc (.map #[] 0)).alloc (.map #[] 0)).alloc (.cells #[.map (some (w.heap.size+1))] 274)).alloc (.cells #[.map (some (w.heap.size+1+1))] 274));obtain ⟨E,hE⟩:=xe_ (firstE (feaE l ft nc) l.length);rw [hE];have HE:=hj_ hE;have hF0:FeI s ft wa A l.length c w W0 w.heap.size [] []:=FeI.start s ft wa A l.length c w W0 _ _ _ hW0;have HF0:=hj_ hF0;have HW0:=hj_ hW0;obtain ⟨-,-,⟨a0,a1,a2,a3⟩,⟨m0,m1⟩,-,-⟩:=id hF0;clear hl hw hE hF0 hW0;have hmm:∀ w,(Instr.makeMap 274 none).run prog w=.ok (.map (some w.heap.size)) (w.alloc (.map #[] 0)):=fun w=>run_makeMap _ w
 go_enter func156,ntmps156
 go_wp2_with fail;rw [← HW0.out];clear hmm;go_wp2_with fail
 go_loopw [18] (fun iv wr=>∃ j:Nat,j≤l.length∧iv=.int .i64 (j:Int)∧(∀ i,i<j→feaE l ft nc i=0)∧FeI s ft wa A l.length c w wr w.heap.size (usedL (l.take j)) ((l.take j).map Fea.at_)) (fun iv _=>l.length-(intOf iv).toNat)
 case atStart=>exact ⟨0,Nat.zero_le _,rfl,fun i h=>absurd h (Nat.not_lt_zero _),HF0.out⟩
 case round =>
  obtain ⟨j,hj,rfl,hall,hI⟩:=hrel;have HAll:=hj_ hall;have HI:=hj_ hI;obtain ⟨hBS,hsz,⟨a0,a1,a2,a3⟩,⟨m0,m1⟩,-,-⟩:=hI;clear hall
  by_cases hlt:j<l.length
  case neg =>
   obtain rfl:j=l.length:=o_
   have hz:E=0:=by rw [← HE.out];exact q86 HAll.out
   subst hz;go_wp2_with fail;go_ret;exact ⟨rfl,hBS⟩
  case pos =>
   have hjH:j<H.length:=by have:=HHl.out;omega
   obtain ⟨b,o,rfl,hbl,hcell⟩:=ft_at HLI.out.1 o_
   have hk:=hcell j hjH;have hfw:=HFW.out j hjH hlt;have hx:=(HLI.out.2.2 j hjH hlt).1;have kk:=fun (q:Nat)=>hBS.cell (p:=⟨b,q,none⟩) hbl
   have hSome:=hj_ (fun (h:feaE l ft nc j≠0)=>HE.out.symm.trans (q87 HAll.out h hlt))
   have hZero:=hj_ (fun (h:feaE l ft nc j=0)=>q88 HAll.out h)
   have hFe:=q7g l ft nc j;have hut:usedL (l.take (j+1))=usedL (l.take j) ++ offsL (l.getD j fea0):=by
    rw [qa1 hlt,List.take_succ_eq_append_getElem hlt,qyo]
   have hkt:(l.take (j+1)).map Fea.at_=(l.take j).map Fea.at_ ++ [(l.getD j fea0).at_]:=by
    rw [qa1 hlt,List.take_succ_eq_append_getElem hlt,List.map_append];rfl
   have hxd:l.getD j fea0=H[j].fea l[j].wh:=by rw [qa1 hlt];exact hx
   rw [hxd] at hFe hut hkt;have hnew:=qf6 (l:=l.take j) (x:=H[j].fea l[j].wh) (foot:=ft);have hkept:=q7h (l:=l.take j) (x:=H[j].fea l[j].wh) (foot:=ft);generalize l[j].wh=wh at *;generalize H[j]=f at *;generalize hU:usedL (l.take j)=U at *;generalize hK:(l.take j).map Fea.at_=K at *
   generalize l.take j=lt at *;have hB0:feaBs lt (f.fea wh) ft=[(decide (f.at_<0∨15≤f.at_),1),(decide (f.at_ ∈ K),7),(decide (bitsV f.bits≠0),1),((offsL (f.fea [])).any fun o=>decide (o<0∨ft≤o),2),(decide (f.bits=8∧f.fi≠0),3),((offsL (f.fea [])).any fun o=>decide (o ∈ U),11),(decide (f.bits=16∧f.fi=f.co),11)]:=by rw [← hU,← hK];rfl
   obtain ⟨q,hq⟩:=xe_ (firstB (feaBs lt (f.fea wh) ft));rw [hq] at hFe hnew hkept;have HIn:=hj_ (fun (hb:f.bits=8∨f.bits=16) w hw=>qhs f wh nc w hw hb)
   have HOf:=hj_ (fun w=>qi4 f w)
   have hofl:=qf5 (f.fea []);have hut2:usedL (l.take (j+1))=U ++ offsL (f.fea []):=hut;have hkt2:(l.take (j+1)).map Fea.at_=K ++ [f.at_]:=hkt
   have hnew2:q=0→∀ k (hk:k<(offsL (f.fea [])).length),(offsL (f.fea []))[k] ∉ U ++ (offsL (f.fea [])).take k:=hnew;have hkept2:q=0→f.at_ ∉ K∧(f.bits=8∨f.bits=16):=fun e=>⟨(hkept e).1,(hkept e).2.1⟩
   obtain ⟨W1,hW1⟩:=ex_ (wr.alloc (.cells (f.cells).toArray 114));have hb1:Below wr.heap.size wr W1:=by rw [hW1];exact (br_).alloc lr_ _
   have hs1:W1.heap.size=wr.heap.size+1:=by rw [hW1];simp
   have hFc:FCells W1 wr.heap.size f:=by
    have key:∀ t u,(f.cells)[t]? = some u→W1.cell? ⟨wr.heap.size,t,none⟩=some u:=fun t u hu=>by rw [hW1,World.cell?_alloc_new];simpa using hu
    exact ⟨key 0 _ rfl,key 1 _ rfl,key 2 _ rfl,key 3 _ rfl,key 4 _ rfl,key 5 _ rfl,key 6 _ rfl,key 7 _ rfl,key 8 _ rfl,key 9 _ rfl⟩
   have HI1:=hj_ (HI.out.below hb1);have HFst:=hj_ (qhh [⟨210,#[.pointer (some ⟨wr.heap.size,0,none⟩)],1,decide (f.at_<0∨15≤f.at_)⟩,⟨211,#[.pointer (some ⟨w.heap.size+1+1+1+1,0,none⟩),.pointer (some ⟨wr.heap.size,0,none⟩)],7,decide (f.at_ ∈ K)⟩,⟨212,#[.pointer (some ⟨wr.heap.size,0,none⟩)],1,decide (bitsV f.bits≠0)⟩,⟨214,#[.pointer (some ⟨wr.heap.size,0,none⟩),.pointer (some ⟨w.heap.size,0,none⟩)],2,(offsL (f.fea [])).any fun o=>decide (o<0∨ft≤o)⟩,⟨218,#[.pointer (some ⟨wr.heap.size,0,none⟩)],3,decide (f.bits=8∧f.fi≠0)⟩,⟨219,#[.pointer (some ⟨wr.heap.size,0,none⟩),.pointer (some ⟨w.heap.size+1+1+1,0,none⟩)],11,(offsL (f.fea [])).any fun o=>decide (o ∈ U)⟩,⟨221,#[.pointer (some ⟨wr.heap.size,0,none⟩)],11,decide (f.bits=16∧f.fi=f.co)⟩] 7 W1 rfl d_
    (fun i h args w=>by
     match i,h with
     | 0,_=>exact enters_of func210 k_ rfl args w
     | 1,_=>exact enters_of func211 k_ rfl args w
     | 2,_=>exact enters_of func212 k_ rfl args w
     | 3,_=>exact enters_of func214 k_ rfl args w
     | 4,_=>exact enters_of func218 k_ rfl args w
     | 5,_=>exact enters_of func219 k_ rfl args w
     | 6,_=>exact enters_of func221 k_ rfl args w)
    (fun i h W' _ hb'=>by
     have hfc:=hFc.below (by rw [hs1];exact Nat.lt_succ_self _) hb'
     obtain ⟨-,hs',⟨-,e1,-,-⟩,⟨e2,e3⟩,hmu,hmk⟩:=HI1.out.below hb'
     match i,h with
     | 0,_=>exact qh6 _ f.at_ W' hfc.1
     | 1,_=>exact qh7 _ _ _ f.at_ K W' hfc.1 e3 hmk
     | 2,_=>exact qh8 _ f W' hfc
     | 3,_=>exact qha _ _ f ft W' hfc o_ e1
     | 4,_=>exact qhb _ f.bits f.fi W' hfc.2.1 hfc.2.2.2.1
     | 5,_=>exact qhd _ _ _ f U W' hfc o_ e2 hmu
     | 6,_=>exact qhe _ f.bits f.co f.fi W' hfc.2.1 hfc.2.2.1 hfc.2.2.2.1))
   rw [q8a] at HFst;replace HFst:=hj_ (show Calls prog 150 #[.slice (some ⟨W1.heap.size,0,none⟩) 7 7] (W1.alloc (.cells (shU.vs _).toArray 215)) fun e w'=>e=.returned (.int .i64 q)∧Below W1.heap.size W1 w' by
    rw [← hq,hB0];exact HFst.out)
   have HFC:=hj_ hFc;have HW1:=hj_ hW1;have HS1:=hj_ hs1;have HB1:=hj_ hb1;have HFe:=hj_ hFe;have HUT:=hj_ (And.intro hut2 hkt2);have HNew:=hj_ hnew2;have HKept:=hj_ hkept2;have HFW2:=hj_ (hfw.below (br_));clear hnew hkept hnew2 hkept2 hut hkt hut2 hkt2 hxd hx hB0 hU hK hFc hW1 hs1 hb1 hFe hcell hfw;obtain ⟨at_,bits,co,fi,cu,ho,lo,hi,sn,A2,n2,d2⟩:=f
   obtain ⟨k0,k1,k2,k3,k4,k5,k6,k7,k8,k9⟩:=hk;have p0:=(kk _).trans k0;have p1:=(kk _).trans k1;have p2:=(kk _).trans k2;have p3:=(kk _).trans k3;have p4:=(kk _).trans k4;have p5:=(kk _).trans k5;have p6:=(kk _).trans k6;have p7:=(kk _).trans k7;have p8:=(kk _).trans k8;have p9:=(kk _).trans k9;clear k0 k1 k2 k3 k4 k5 k6 k7 k8 k9 kk;dsimp only at p0 p1 p2 p3 p4 p5 p6 p7 p8 p9;have hbw:b<wr.heap.size:=o_
   have i0:(0:Int)≤(j:Int):=o_
   have i1:(j:Int)<(l.length:Int):=o_
   have w0:IntKind.i64.wrap ((j:Int)+1)=(j:Int)+1:=IntWalk.i64_in _ o_
   have hW1':W1=wr.alloc (.cells #[.int .i64 at_,.int .i64 bits,.int .i64 co,.int .i64 fi,.int .i64 cu,.int .i64 ho,.int .i64 lo,.int .i64 hi,.bool sn,.slice A2 n2 d2] 114):=HW1.out
   replace HW1:=hj_ hW1';clear hW1';go_wp2_with fail;rw [← HW1.out,← HS1.out];refine HFst.out.mono ?_;rintro e wk ⟨rfl,hb⟩;have HIk:=hj_ (HI1.out.below hb);have hPk:wr.heap.size<wk.heap.size:=by have:=hb.size;have:=HS1.out;omega
   have HCk:=hj_ (HFC.out.below (oh_ HS1.out) hb)
   clear hb HFst HFC p0 p1 p2 p3 p4 p5 p6 p7 p8 p9 a0 a1 a2 a3 m0 m1 hbw i0 i1 hBS HI1;obtain ⟨c0,c1,c2,c3,c4,c5,c6,c7,c8,c9⟩:=HCk.out
   by_cases hq0:q=0
   case neg =>
    have h1:feaE l ft nc j=q:=by rw [HFe.out,if_pos hq0]
    have he:E=q:=(hSome.out (by rw [h1];exact hq0)).trans h1
    subst he;have g2:(E != 0)=true:=by simpa using hq0
    have g1:(E == 0)=false:=by simpa using hq0
    go_wp2_with fail;go_ret;exact ⟨rfl,HIk.out.1⟩
   case pos =>
    subst hq0;obtain ⟨hatK,hb816⟩:=HKept.out rfl;have HNew2:=hj_ (HNew.out rfl);obtain ⟨I,hI⟩:=xe_ (innerE (FC.fea ⟨at_,bits,co,fi,cu,ho,lo,hi,sn,A2,n2,d2⟩ wh) nc)
    have HInn:=hj_ (HIn.out hb816);rw [hI] at HInn;replace HInn:=hj_ (show ∀ w',FW w' ⟨at_,bits,co,fi,cu,ho,lo,hi,sn,A2,n2,d2⟩ wh→Calls prog 222 #[.agg #[.int .i64 at_,.int .i64 bits,.int .i64 co,.int .i64 fi,.int .i64 cu,.int .i64 ho,.int .i64 lo,.int .i64 hi,.bool sn,.slice A2 n2 d2],.int .i64 nc] w' fun e w''=>e=.returned (.int .i64 I)∧Below w'.heap.size w' w'' from HInn.out)
    have h1:feaE l ft nc j=I:=by rw [HFe.out,if_neg (fun h=>h rfl),hI]
    have HOf2:=hj_ (show ∀ w',Calls prog 216 #[.agg #[.int .i64 at_,.int .i64 bits,.int .i64 co,.int .i64 fi,.int .i64 cu,.int .i64 ho,.int .i64 lo,.int .i64 hi,.bool sn,.slice A2 n2 d2]] w' fun e w''=>∃ b3 n3 c3,e=.returned (.slice (some ⟨b3,0,none⟩) n3 c3)∧w'.heap.size≤b3∧Is w'' (some ⟨b3,0,none⟩) n3 (offsL (FC.fea ⟨at_,bits,co,fi,cu,ho,lo,hi,sn,A2,n2,d2⟩ []))∧Below w'.heap.size w' w'' from HOf.out)
    have HUT2:=hj_ (show usedL (l.take (j+1))=U ++ offsL (FC.fea ⟨at_,bits,co,fi,cu,ho,lo,hi,sn,A2,n2,d2⟩ [])∧(l.take (j+1)).map Fea.at_=K ++ [at_] from HUT.out)
    replace hatK:at_ ∉ K:=hatK
    clear HOf HUT HNew HKept hq HIn;generalize offsL (FC.fea ⟨at_,bits,co,fi,cu,ho,lo,hi,sn,A2,n2,d2⟩ [])=ol at *
    go_wp2_with fail;refine (HInn.out _ (HFW2.out.below HIk.out.1)).mono ?_;rintro e wm ⟨rfl,hb⟩;have HIm:=hj_ (HIk.out.below hb);have hPm:wr.heap.size<wm.heap.size:=by have:=hb.size;omega
    have HCm:=hj_ (HCk.out.below hPk hb);clear hb HInn c0 c1 c2 c3 c4 c5 c6 c7 c8 c9;obtain ⟨c0,c1,c2,c3,c4,c5,c6,c7,c8,c9⟩:=HCm.out;obtain ⟨hBm,hsm,-,⟨m0,m1⟩,hMu,hMk⟩:=id HIm.out
    by_cases hI0:I=0
    case neg =>
     have he:E=I:=(hSome.out (by rw [h1];exact hI0)).trans h1
     subst he;have g2:(E != 0)=true:=by simpa using hI0
     have g1:(E == 0)=false:=by simpa using hI0
     go_wp2_with fail;go_ret;exact ⟨rfl,hBm⟩
    case pos =>
     subst hI0;have HNext:=hj_ (hZero.out h1);have hnK:lookL (setL K) at_=none:=by rw [qd6,if_neg hatK]
     have HNK:=hj_ hnK;have HMk:=hj_ hMk;clear hMu hMk hnK h1 hBm;go_wp2_with (at_mapUpdate;refine q004 _ rfl _ _ _ _ rfl _ _ underlying274 iK (KeyTy.int underlying3) (w.heap.size+1+1) (setL K) at_ (.bool true) rfl rfl rfl HMk.out HNK.out ?_;intro w5 hm5 hg5;have HI5:=hj_ (HIm.out.putK hm5 hg5);have hP5:wr.heap.size<w5.heap.size:=Nat.lt_of_lt_of_le hPm hg5.size;have HC5:=hj_ (HCm.out.grown hg5 hPm o_);clear c0 c1 c2 c3 c4 c5 c6 c7 c8 c9 hm5 hg5 m0 m1 hsm;obtain ⟨c0,c1,c2,c3,c4,c5,c6,c7,c8,c9⟩:=HC5.out)
     refine (HOf2.out _).mono ?_;rintro e w6 ⟨b2,n6,c6',rfl,hb2,hIs,hb⟩;have HI6:=hj_ (HI5.out.below hb);obtain ⟨rfl,_⟩:=id hIs;have hcs:∀ i (hi:i<ol.length),w6.cell? ⟨b2,i,none⟩=some (.int .i64 ol[i])∧b2<w6.heap.size:=fun i hi=>by
      obtain ⟨b',o',e,hl',hc⟩:=hIs.at1 hi
      cases e
      exact ⟨by simpa using hc,hl'⟩
     have HCs:=hj_ hcs;have h5S:w.heap.size+5≤w5.heap.size:=HI5.out.2.1;have hbS:w.heap.size+5≤b2:=o_
     clear hb hcs hIs HC5 HCm HCk HOf2 HIk HIm c0 c1 c2 c3 c4 c5 c6 c7 c8 c9 h5S hb2;go_wp2_with fail
     go_loopw [53] (fun iv w7=>∃ k:Nat,k≤ol.length∧iv=.int .i64 (k:Int)∧FeI s ft wa (some ⟨b,o,none⟩) l.length c w w7 w.heap.size (U ++ ol.take k) (K ++ [at_])∧(∀ i (hi:i<ol.length),w7.cell? ⟨b2,i,none⟩=some (.int .i64 ol[i])∧b2<w7.heap.size)) (fun iv _=>ol.length-(intOf iv).toNat)
     case atStart=>exact ⟨0,Nat.zero_le _,rfl,by simpa using HI6.out,HCs.out⟩
     case round =>
      obtain ⟨k,hk,rfl,hI7,hc7⟩:=hrel;have HI7:=hj_ hI7;have HC7:=hj_ hc7;obtain ⟨hB7,hs7,-,⟨m0,m1⟩,hMu,-⟩:=hI7;clear hc7
      by_cases hklt:k<ol.length
      case neg =>
       obtain rfl:k=ol.length:=o_
       clear hMu m0 m1;go_wp2_with fail
       go_roundw
       case rel=>exact ⟨j+1,hlt,by go_num,HNext.out,by rw [HUT2.out.1,HUT2.out.2];simpa using HI7.out⟩
       case measure=>simp [intOf];omega
      case pos =>
       obtain ⟨p0,hb7⟩:=HC7.out k hklt;have hnw:=HNew2.out k hklt;have HX:=hj_ (show ∀ x,x=ol[k]→U ++ ol.take k ++ [x]=U ++ ol.take (k+1) from fun x hx=>by rw [hx,List.append_assoc,← List.take_succ_eq_append_getElem hklt])
       have hX:=HX.out ol[k] rfl;have HXk:=hj_ hX;have HNU:=hj_ (show lookL (setL (U ++ ol.take k)) ol[k]=none by rw [qd6,if_neg hnw])
       clear hX HX hnw;generalize ol[k]=x at *;have HMu:=hj_ hMu;have i0:(0:Int)≤(k:Int):=o_
       have i1:(k:Int)<(ol.length:Int):=o_
       have w1:IntKind.i64.wrap ((k:Int)+1)=(k:Int)+1:=IntWalk.i64_in _ o_
       clear hMu hB7;go_wp2_with (at_mapUpdate;refine q004 _ rfl _ _ _ _ rfl _ _ underlying274 iK (KeyTy.int underlying3) (w.heap.size+1) (setL (U ++ ol.take k)) x (.bool true) rfl rfl rfl HMu.out HNU.out ?_;intro w8 hm8 hg8)
       go_roundw
       case rel=>exact ⟨k+1,hklt,by go_num,by rw [← HXk.out];exact HI7.out.putU hm8 hg8,fun i hi=>⟨(qaf hg8 (p:=⟨b2,i,none⟩) (HC7.out i hi).2 (by show b2≠w.heap.size+1;omega)).trans (HC7.out i hi).1,Nat.lt_of_lt_of_le (HC7.out i hi).2 hg8.size⟩⟩
       case measure=>simp [intOf];omega
end Go.Proofs.YtabhjdmmfdfpeaaGreatDoor
