/- Lemmas. -/
import Derived.Test.YtabhjdmmfdfpeaaGreatDoorKCurveA
namespace Go.Proofs.YtabhjdmmfdfpeaaGreatDoor
set_option maxHeartbeats 32000000
open _root_.Go.Proofs.Tryz
variable {cs:List Value} {fuel n:Nat} {t:TypeId} {v:Value}

section
open Go.ChangeShapes Go.WideShapes Go.ChangeAt Go.RowKit Go.Deep
section
variable {H:Type} {enc:TypeId × Value→H} {w:World} {base:Nat} {spare:Nat→Bool} {held:Bool}
theorem q05 (a:Addr) (i j:Nat):(a.add i).add j=a.add (i+j):=by simp [Go.Deep.add_add]
theorem qfc {α:Type} (S:Sh α) {e:TypeId} (ht:prog.underlying t=some (.slice e)) (hz:prog.cellsOf e=S.z) (hz0:0<S.z) (d:α) (Good:α→Prop)
  (hel:∀ fuel cs x,DataW.trod enc prog w base spare held fuel e cs=some x→∃ a,cs=S.cs a∧Good a)
  {A:Option Addr} {c:Nat} {x:DataW H × List MemPlace} (h:DataW.trod enc prog w base spare held fuel t [.slice A n c]=some x):∃ l,S.In w A n l∧(∀ a ∈ l,Good a)∧n≤maxLen∧(n=0∨∃ el sp,x.1=.slice el sp∧n=el.length):=by
 rcases open_slice ht h with ⟨h1,_⟩ | ⟨a,len,cap,m,k,D,Pl,hcs,hb,hl,hm,hmm,hx,hi⟩
 ·simp at h1
  obtain ⟨rfl,rfl,rfl⟩:=h1;exact ⟨[],Sh.In.nil _ _,s_,s_,.inl rfl⟩
 ·simp at hcs
  obtain ⟨rfl,rfl,rfl⟩:=hcs;obtain ⟨l,h1,h2⟩:=Sh.In.of_cells (S:=S) (w:=w) (a:=a) (len:=n) Good hz0 (fun i hin=>by
   obtain ⟨cs',hc,ht'⟩:=hi i (by rw [hmm];split <;> omega)
   obtain ⟨_,hcl,hat⟩:=World.cells?_some hc;obtain ⟨v,rfl,hg⟩:=hel _ _ _ ht';refine ⟨v,hg,fun j u hu=>?_⟩
   have hj:j<(S.cs v).length:=(List.getElem?_eq_some_iff.1 hu).1;rw [S.len] at hj
   have:=hat j (by rw [hz];exact hj)
   rw [q05,hu,hz] at this;exact this) d
  exact ⟨l,h1,h2,o_,.inr ⟨_,_,by rw [hx],s_⟩⟩
theorem qt7 {fs:Array Field} (ht:prog.underlying t=some (.struct fs)) {x:DataW H × List MemPlace} (h:DataW.trod enc prog w base spare held fuel t cs=some x) :
  cs.length=prog.cellsOf t∧∀ (i:Nat) (ft:TypeId) (o:Nat),(fs.map fun f=>(f.type,f.offset))[i]? = some (ft,o)→∃ n y,DataW.trod enc prog w base spare held n ft ((cs.drop o).take (prog.cellsOf ft))=some y:=by
 obtain ⟨ys,n',hn',hy,hlen,hyl,hf⟩:=DataW.trod_struct ht h;refine ⟨hlen,fun i ft o hi=>?_⟩
 simp at hi;obtain ⟨q,hq,h1,h2⟩:=hi;have hlt:i<ys.length:=by rw [hyl];exact (Array.getElem?_eq_some_iff.1 hq).1
 have:=hf i q hq
 rw [h1,h2,List.getElem?_eq_getElem hlt] at this;exact ⟨n',_,this⟩
end
theorem int_bd {x:Int} (h:(Lit.int .i64 x).wf=true):-9223372036854775808≤x∧x≤9223372036854775807:=by
 simpa [Lit.wf,IntKind.min,IntKind.max,IntKind.bits,IntKind.signed] using h
end

section
open Go.ChangeShapes Go.WideShapes Go.ChangeAt Go.RowKit Go.Deep
def OkI (x:Int):Prop:=-9223372036854775808≤x∧x≤9223372036854775807
section
variable {H:Type} {enc:TypeId × Value→H} {w:World} {base:Nat} {spare:Nat→Bool} {held:Bool}
theorem cells2 (h:cs.length=2):∃ a b,cs=[a,b]:=by
 match cs,h with
 | [a,b],_=>exact ⟨a,b,rfl⟩
theorem cells3 (h:cs.length=3):∃ a b c,cs=[a,b,c]:=by
 match cs,h with
 | [a,b,c],_=>exact ⟨a,b,c,rfl⟩
theorem cells4 (h:cs.length=4):∃ a b c d,cs=[a,b,c,d]:=by
 match cs,h with
 | [a,b,c,d],_=>exact ⟨a,b,c,d,rfl⟩
theorem q2d:prog.cellsOf 3=1:=k_
theorem trod_i {y:DataW H × List MemPlace} (h:DataW.trod enc prog w base spare held n 3 [v]=some y):∃ x,v=.int .i64 x∧OkI x:=by
 obtain ⟨x,e,_,hw⟩:=DataW.trod_int underlying3 h;simp at e;exact ⟨x,e,int_bd hw⟩
set_option maxRecDepth 100000 in
theorem q0a {fs:Array Field} {b0:Nat} (ht:prog.underlying t=some (.struct fs)) {d:DataW H} {p:List MemPlace} (hv:Value.okWide prog w .any b0 t v) (h:DataW.Trod enc prog w base spare held t v d p) :
  ∃ (cs:List Value) (fuel:Nat) (x:DataW H × List MemPlace),v=.agg cs.toArray∧DataW.trod enc prog w base spare held fuel t cs=some x:=by
 obtain ⟨cs,rfl,_⟩:=okWide_struct ht hv;obtain ⟨fuel,hf⟩:=h;exact ⟨cs.toList,fuel,_,rfl,hf⟩
end
end

section
open Go.ChangeShapes Go.WideShapes Go.ChangeAt Go.RowKit Go.Deep
def goodP (q:PT):Prop:=OkI q.1∧OkI q.2
variable {H:Type} {enc:TypeId × Value→H} {w:World} {base:Nat} {spare:Nat→Bool} {held:Bool}
theorem qi5 {x:DataW H × List MemPlace} (h:DataW.trod enc prog w base spare held fuel 211 cs=some x):∃ q:PT,cs=shP.cs q∧goodP q:=by
 obtain ⟨hl,hf⟩:=qt7 (fs:=prog.fieldsOf 211) k_ h
 rw [show prog.cellsOf 211=2 by kernel_rfl] at hl
 rw [show (prog.fieldsOf 211).map (fun f=>(f.type,f.offset))=#[(3,0),(3,1)] by kernel_rfl] at hf
 obtain ⟨a,b,rfl⟩:=cells2 hl;obtain ⟨n0,y0,h0⟩:=hf 0 _ _ rfl;obtain ⟨n1,y1,h1⟩:=hf 1 _ _ rfl;rw [q2d] at h0 h1;obtain ⟨x1,rfl,g1⟩:=trod_i h0;obtain ⟨x2,rfl,g2⟩:=trod_i h1;exact ⟨(x1,x2),rfl,g1,g2⟩
end

end Go.Proofs.YtabhjdmmfdfpeaaGreatDoor
