/- Lemmas. -/
import Derived.Test.YtabhjdmmfdfpeaaGreatDoorQPwI
import Derived.Test.YtabhjdmmfdfpeaaGreatDoorQPwG
namespace Go.Proofs.YtabhjdmmfdfpeaaGreatDoor
set_option maxHeartbeats 32000000
set_option maxRecDepth 100000
open _root_.Go.Proofs.Tryz
open Go.RowKit
variable {X:List Fx} {d0 d1 d2 n0 n1:Nat} {A0 A1 A2:Option Addr} {w w':World}
theorem q0o5 {P:Program} {ops:Array Oper} {o:Oper} {a:Act} {K:Act→World→Prop} {Q:Exit→Act→World→Prop} {E:Prop} (hgd:o.guard=none) (s x:Operand) (t:TypeId)
  (ho:o.op=.call { callee:=.builtin .append,args:=#[s,x],argTypes:=#[t,t] })
  (base:Nat) (e:TypeId) (z:Value) (size bytes:Nat) (ht:P.underlying t=some (.slice e)) (hinfo:(P.info? e).map (fun i=>(i.zero,i.size,i.bytes))=some (some z,size,bytes)) (hzs:z.cells.size=size) (hsz:0<size)
  (v:Value) (n:Nat) (xs:List Value) (hs:a.eval s=v) (hown:w.ownsRow base e size v n xs)
  (cs:List Value) (t2:TypeId) (b2 c:Nat) (hx:a.eval x=.slice (some ⟨b2,0,none⟩) 1 c) (hb2:b2=w.heap.size) (hl:cs.length=size) (h1:∀ u ∈ cs,u.oneCell' = true)
  (h63:n+1≤maxLen) (hbytes:(n+1)*bytes≤140737488355328) (hbase:base≤w.heap.size)
  (h:∀ g cap w',w'.ownsRow base e size (.slice (some ⟨g,0,none⟩) (n+1) cap) (n+1) (xs ++ cs)→w.grownBy w' v.ownBlock→(v.ownBlock=some g∨w.heap.size≤g)→K (a.put o.dst (.slice (some ⟨g,0,none⟩) (n+1) cap)) w') :
  if Region.wanted o (yielded ops a.tmps)=true then Oper.wp P o a (w.alloc (.cells cs.toArray t2)) K Q else E:=by
 obtain ⟨i,hi,hz,hsize,hby⟩:=info_parts hinfo;subst hb2;refine step_append_lies (w:=w.alloc (.cells cs.toArray t2)) hgd s x t ho base e i z size bytes ht hi hz hsize hby hzs hsz v n xs hs (hown.alloc _) ⟨w.heap.size,0,none⟩ 1 c cs hx o_ (q2g w cs t2) h1 o_ h63 hbytes (by simp;omega) _ rfl ?_
 intro g cap w' hown' hg hgx _;exact h g cap w' hown' ((World.grownBy_alloc w _ _).trans hg) (hgx.imp id (fun q=>by rw [q,World.size_alloc];omega))
theorem q0ku {P:Nat} {row:Option Nat} {vs:List Value} (h:Cells w P vs) (hg:w.grownBy w' row) (hne:∀ r,row=some r→P≠r):Cells w' P vs:=by
 have hb:=hg.block P h.1 (fun e=>hne P e.symm rfl)
 exact ⟨Nat.lt_of_lt_of_le h.1 hg.size,fun j u hu=>⟨(World.cell?_of_block hb).trans (h.2 j u hu).1,(q9p hb).trans (h.2 j u hu).2⟩⟩
theorem infoSX:(prog.info? 24).map (fun i=>(i.zero,i.size,i.bytes))=some (some (.slice none 0 0),1,24):=k_
theorem q0l3 (g:Nat) (cb:Array Value) (A:Option Addr) (n c:Nat) (l:List Fx) (w:World) (eg:∀ args w,(callFunc g args).run prog w=.ok (.enter g args) w) (hl:shX.In w A n l) (hn:n≤1000)
  (hf:∀ i (h:i<l.length) (W:World),Below w.heap.size w W→Calls prog g (#[.int .i64 (i:Int),l[i].val] ++ cb) W fun e w'=>e=.returned (.string l[i].cb)∧Below W.heap.size W w') :
  Calls prog 92 #[.slice A n c,.func (.func g) #[] cb] w fun e w'=>∃ ov vals,e=.returned ov∧Grps w' w.heap.size 45 24 7 shX.vs ov vals (gsV Fx.cb l)∧Below w.heap.size w w':=by
 obtain rfl:n=l.length:=hl.1;have HL:=hj_ hl;have HF:=hj_ hf;have HN:=hj_ hn;have hmm:∀ w,(Instr.makeMap 195 none).run prog w=.ok (.map (some w.heap.size)) (w.alloc (.map #[] 0)):=fun w=>run_makeMap _ w
 obtain ⟨W5,hW5⟩:=ex_ (w.alloc (.map #[] 0));have HB5:=hj_ (show Below w.heap.size w W5 by rw [hW5];exact (br_).alloc lr_ _)
 have HM5:=hj_ (show MapAt sK W5 w.heap.size (plL (ksV Fx.cb (l.take 0))) by rw [hW5];exact MapAt.made sK w)
 have HW5:=hj_ hW5;clear hW5 hl hf hn
 go_enter func92,ntmps92
 go_wp2_with fail;rw [← HW5.out];clear hmm
 go_loopw [6,15] (fun ov iv wr=>∃ (k:Nat) (vals:List Value),k≤l.length∧iv=.int .i64 k∧Below w.heap.size w wr∧MapAt sK wr w.heap.size (plL (ksV Fx.cb (l.take k)))∧Grps wr (w.heap.size+1) 45 24 7 shX.vs ov vals (gsV Fx.cb (l.take k))) (fun _ iv _=>l.length-(intOf iv).toNat)
 case atStart=>exact ⟨0,[],Nat.zero_le _,rfl,HB5.out,HM5.out,Grps.nil _⟩
 case round =>
  obtain ⟨k,vals,hk,rfl,hB,hM,hG⟩:=hrel;generalize u6=ov at *;have HM:=hj_ hM;have HG:=hj_ hG
  by_cases hlt:k<l.length
  ·obtain ⟨b,o,rfl,hbl,hcell⟩:=fx_at HL.out o_
   have hk7:=hcell k hlt;have kk:=fun (q:Nat)=>hB.cell (p:=⟨b,q,none⟩) hbl
   have hbw:b<wr.heap.size:=Nat.lt_of_lt_of_le hbl hB.size;have i0:(0:Int)≤(k:Int):=o_
   have i1:(k:Int)<(l.length:Int):=o_
   have w0:IntKind.i64.wrap ((k:Int)+1)=(k:Int)+1:=IntWalk.i64_in _ (oh_ HN.out)
   have HOld:=hj_ (fun j (hj:j<(ksV Fx.cb (l.take k)).length) (h:(ksV Fx.cb (l.take k))[j]=l[k].cb)=>q0eu (key:=Fx.cb) (l:=l.take k) (x:=l[k]) (j:=j) hj h)
   have HNew:=hj_ (fun (h:l[k].cb ∉ ksV Fx.cb (l.take k))=>q0et (key:=Fx.cb) (l:=l.take k) (x:=l[k]) h)
   have hLe:=fun j (hj:j<(gsV Fx.cb (l.take k)).length)=>gsV_le Fx.cb (l.take k) _ (List.getElem_mem hj)
   have hLe2:(gsV Fx.cb (l.take k)).length≤1000:=by rw [q0es];have:=ksV_le Fx.cb (l.take k);have:=HN.out;rw [List.length_take] at *;omega
   have hLe3:∀ j (hj:j<(gsV Fx.cb (l.take k)).length),(gsV Fx.cb (l.take k))[j].length≤1000:=fun j hj=>by have:=hLe j hj;have:=HN.out;rw [List.length_take] at *;omega
   have hgk:=q0es Fx.cb (l.take k);rw [← List.take_succ_eq_append_getElem hlt] at HOld HNew;have HLt:=hj_ hlt;have HC:=hj_ (HF.out k hlt);clear hcell hLe hM hG;generalize gsV Fx.cb (l.take k)=gs at *;generalize ksV Fx.cb (l.take k)=ks at *;generalize l[k]=x at *;obtain ⟨ch,pt,pr,un,ad,ph,ka⟩:=x;dsimp only at hk7;obtain ⟨k0,k1,k2,k3,k4,k5,k6⟩:=hk7;have p0:=(kk _).trans k0;have p1:=(kk _).trans k1;have p2:=(kk _).trans k2;have p3:=(kk _).trans k3;have p4:=(kk _).trans k4;have p5:=(kk _).trans k5;have p6:=(kk _).trans k6;obtain ⟨W1,hW1⟩:=ex_ (wr.alloc (.cells #[.int .i64 ch,.int .i64 pt,.string pr,.int .i64 un,.int .i64 ad,.int .i64 ph,.string ka] 45));have hb1:Below wr.heap.size wr W1:=by rw [hW1];exact (br_).alloc lr_ _
   have hx1:Cells W1 wr.heap.size [.int .i64 ch,.int .i64 pt,.string pr,.int .i64 un,.int .i64 ad,.int .i64 ph,.string ka]:=by rw [hW1];exact Cells.fresh wr [.int .i64 ch,.int .i64 pt,.string pr,.int .i64 un,.int .i64 ad,.int .i64 ph,.string ka] _
   have hB1:=ht_ hB hb1;have hc2:Calls prog g (#[.int .i64 (k:Int),.agg #[.int .i64 ch,.int .i64 pt,.string pr,.int .i64 un,.int .i64 ad,.int .i64 ph,.string ka]] ++ cb) W1 fun e w'=>e=.returned (.string ka)∧Below W1.heap.size W1 w':=HC.out W1 hB1
   have x0:=hx1.at_ (j:=0) rfl
   have x1:=hx1.at_ (j:=1) rfl
   have x2:=hx1.at_ (j:=2) rfl
   have x3:=hx1.at_ (j:=3) rfl
   have x4:=hx1.at_ (j:=4) rfl
   have x5:=hx1.at_ (j:=5) rfl
   have x6:=hx1.at_ (j:=6) rfl
   have l1:=hx1.1;have hwb:w.heap.size+1≤wr.heap.size:=by have:=HM.out.lt;omega
   have HNe:=hj_ (show wr.heap.size≠w.heap.size by omega)
   have HAft:=hj_ (show ∀ w2,Below W1.heap.size W1 w2→Hid (Cells w2 wr.heap.size [.int .i64 ch,.int .i64 pt,.string pr,.int .i64 un,.int .i64 ad,.int .i64 ph,.string ka])∧Hid (MapAt sK w2 w.heap.size (plL ks))∧Hid (Grps w2 (w.heap.size+1) 45 24 7 shX.vs ov vals gs)∧Hid (Below w.heap.size w w2)∧w.heap.size+1≤w2.heap.size from fun w2 hb=>by
    have hb2:=ht_ hb1 hb;exact ⟨hj_ (hx1.below hb hx1.1),hj_ (HM.out.below hb2),hj_ (HG.out.kept hb2),hj_ (ht_ hB hb2),Nat.le_trans hwb hb2.size⟩)
   have HEnc:=hj_ (show ∀ m,shX.vs m ++ [.int .i64 ch,.int .i64 pt,.string pr,.int .i64 un,.int .i64 ad,.int .i64 ph,.string ka]=shX.vs (m ++ [⟨ch,pt,pr,un,ad,ph,ka⟩]) from fun m=>by rw [shX.vs_append,shX.vs_one1];rfl)
   have HLe3:=hj_ hLe3;have HW1:=hj_ hW1;clear k0 k1 k2 k3 k4 k5 k6 kk HC hLe3 hb1 hx1 hB1 hW1;go_wp2_with fail;rw [← HW1.out];clear p0 p1 p2 p3 p4 p5 p6 hbw
   by_cases hm:ka ∈ ks
   ·obtain ⟨j,hj,hjk,hlook⟩:=q0fo hm
    obtain ⟨hk1,hg1⟩:=HOld.out j hj hjk;have hGj:j<gs.length:=o_
    have HLV:=hj_ (show lookV true (plL ks) ka (.int .i64 0)=.tuple #[.int .i64 (j:Int),.bool true] by
     unfold lookV;rw [if_pos rfl,hlook];rfl)
    obtain ⟨og,oc,rfl,hog,hogl⟩:=HG.out.out.form o_
    obtain ⟨v,hv,hrow0⟩:=HG.out.row j hGj;rw [List.getD_eq_getElem?_getD,List.getElem?_eq_getElem hGj,Option.getD_some] at hg1;have HK1:=hj_ hk1;have HG1:=hj_ hg1;have HVq:=hj_ hv;have HNv:=hj_ (show ∀ q,v.ownBlock=some q→q≠wr.heap.size from fun q e=>by have:=(q0g1 hrow0 e).2.1;omega)
    have HOg:=hj_ (show og≠wr.heap.size by omega)
    have HJl:=hj_ hGj;have HN7:=hj_ (HLe3.out j hGj);clear HOld HNew hm hj hjk hlook hrow0 hk1 hg1 hgk hv hog hogl hB;go_wp2_with (first | (go_at_fn g;refine hc2.mono ?_;rintro e w2 ⟨rfl,hb⟩;obtain ⟨HX2,HM2,HG2,HB2,hs2⟩:=HAft.out w2 hb;clear hb) | (at_lookup;refine q002 _ rfl _ _ _ _ rfl _ _ underlying195 sK (KeyTy.str underlying9) w.heap.size (plL ks) ka rfl rfl HM2.out (.int .i64 0) s_ ?_;rw [HLV.out]))
    have HGq:=HG2;have HMq:=HM2;have HBq:=HB2;have HXq:=HX2;have HSz:=hj_ hs2;have HRw:=hj_ (show w2.ownsRow (w.heap.size+1) 45 7 v gs[j].length (shX.vs gs[j]) by
     obtain ⟨u,hu,hr⟩:=HG2.out.row j HJl.out;rw [HVq.out] at hu
     injection hu with hu
     subst hu;exact hr)
    clear HG2 HM2 HB2 HX2 hs2;have hGJ:j<gs.length:=HJl.out;have d0:=(HGq.out.out.cellAt j o_).trans HVq.out
    have x0:=HXq.out.at_ (j:=0) rfl
    have x1:=HXq.out.at_ (j:=1) rfl
    have x2:=HXq.out.at_ (j:=2) rfl
    have x3:=HXq.out.at_ (j:=3) rfl
    have x4:=HXq.out.at_ (j:=4) rfl
    have x5:=HXq.out.at_ (j:=5) rfl
    have x6:=HXq.out.at_ (j:=6) rfl
    have hs6:w.heap.size+1≤w2.drew.heap.size:=HSz.out;have hogl:=(q0g1 HGq.out.out (b:=og) rfl).2.1;have i2:(0:Int)≤((j:Nat):Int):=o_
    have i3:((j:Nat):Int)<((gs.length:Nat):Int):=o_
    have HRd:=hj_ (show w2.drew.ownsRow (w.heap.size+1) 45 7 v gs[j].length (shX.vs gs[j]) from ⟨HRw.out.1,HRw.out.2⟩)
    have HnJ:=HN7.out;have hbA:Below w2.heap.size w2 (w2.drew.alloc (.cells #[.int .i64 ch,.int .i64 pt,.string pr,.int .i64 un,.int .i64 ad,.int .i64 ph,.string ka] 45)):=(br_).drew.alloc lr_ _;have hxA:=HXq.out.below hbA HXq.out.1;have HKA:=hj_ (show (fun w'=>w'.cell? ⟨wr.heap.size,0,none⟩=some (.int .i64 ch)∧w'.cell? ⟨wr.heap.size,1,none⟩=some (.int .i64 pt)∧w'.cell? ⟨wr.heap.size,2,none⟩=some (.string pr)∧w'.cell? ⟨wr.heap.size,3,none⟩=some (.int .i64 un)∧w'.cell? ⟨wr.heap.size,4,none⟩=some (.int .i64 ad)∧w'.cell? ⟨wr.heap.size,5,none⟩=some (.int .i64 ph)∧w'.cell? ⟨wr.heap.size,6,none⟩=some (.string ka)) (w2.drew.alloc (.cells #[.int .i64 ch,.int .i64 pt,.string pr,.int .i64 un,.int .i64 ad,.int .i64 ph,.string ka] 45)) from ⟨hxA.at_ (j:=0) rfl,hxA.at_ (j:=1) rfl,hxA.at_ (j:=2) rfl,hxA.at_ (j:=3) rfl,hxA.at_ (j:=4) rfl,hxA.at_ (j:=5) rfl,hxA.at_ (j:=6) rfl⟩)
    have d0A:=(hbA.cell (p:=⟨og,j,none⟩) hogl).trans d0;have hoglA:=Nat.lt_of_lt_of_le hogl hbA.size;clear hxA hbA;refine wp_region_held_drew (S:=fun w'=>w'.cell? ⟨wr.heap.size,0,none⟩=some (.int .i64 ch)∧w'.cell? ⟨wr.heap.size,1,none⟩=some (.int .i64 pt)∧w'.cell? ⟨wr.heap.size,2,none⟩=some (.string pr)∧w'.cell? ⟨wr.heap.size,3,none⟩=some (.int .i64 un)∧w'.cell? ⟨wr.heap.size,4,none⟩=some (.int .i64 ad)∧w'.cell? ⟨wr.heap.size,5,none⟩=some (.int .i64 ph)∧w'.cell? ⟨wr.heap.size,6,none⟩=some (.string ka)) k_ (by first | exact ⟨x0,x1,x2,x3,x4,x5,x6⟩) (fun hHeld=>?_)
    refine tq 0 ?_;refine tq 1 ?_;refine tq 2 ?_;refine tq 3 ?_;refine tq 4 ?_;refine tq 6 ?_;refine wpAnyH_ready (rs:=[5,7]) k_ s_ ?_
    refine AllReadyH.cons rfl (fun K hK=>?_) (AllReadyH.cons rfl (fun K hK=>?_) AllReadyH.nil)
    ·go_simp
     refine hK.out _ _ (by exact ⟨x0,x1,x2,x3,x4,x5,x6⟩) (fun hHeld=>?_)
     clear hK K
     try simp only [Act.put,List.setIfInBounds_toArray,List.set_cons_zero,List.set_cons_succ]
     refine wpAnyH_ready (rs:=[7]) k_ s_ ?_
     refine AllReadyH.cons rfl (fun K hK=>?_) AllReadyH.nil
     go_simp
     refine hK.out _ _ (by exact HKA.out) (fun hHeld=>?_)
     clear hK K
     try simp only [Act.put,List.setIfInBounds_toArray,List.set_cons_zero,List.set_cons_succ]
     refine wpAnyH_ready (rs:=[8]) k_ s_ ?_
     refine AllReadyH.cons rfl (fun K hK=>?_) AllReadyH.nil
     refine q0o5 rfl _ _ _ rfl (w.heap.size+1) 45 _ 7 72 underlying24 q056 rfl o_ _ gs[j].length (shX.vs gs[j]) (by simp [Act.eval]) HRd.out [.int .i64 ch,.int .i64 pt,.string pr,.int .i64 un,.int .i64 ad,.int .i64 ph,.string ka] 45 _ 1 (by simp [Act.eval]) rfl rfl (fx_one _ _ _ _ _ _ _) (by unfold maxLen;omega) o_ hs6 ?_
     intro g4 c4 w4 hown4 hg4 hx4;have hgW:w2.grownBy w4 v.ownBlock:=⟨hg4.os,hg4.tape,hg4.output,hg4.size,hg4.block⟩;have hko:=q0g2 HGq.out.out (fun q hq=>hgW.block q (q0g1 HGq.out.out hq).2.1 (fun e=>HGq.out.off j v q HVq.out e.symm hq))
     have fz4:=hko.frozenAt j;have cl4:=(hko.cellAt j o_).trans HVq.out
     have hogl4:=Nat.lt_of_lt_of_le hogl hgW.size;have hX4:=q0ku HXq.out hgW (fun q e=>Ne.symm (HNv.out q e))
     have hne:og≠wr.heap.size:=HOg.out;have HKB:=hj_ (show (fun w'=>w'.cell? ⟨wr.heap.size,0,none⟩=some (.int .i64 ch)∧w'.cell? ⟨wr.heap.size,1,none⟩=some (.int .i64 pt)∧w'.cell? ⟨wr.heap.size,2,none⟩=some (.string pr)∧w'.cell? ⟨wr.heap.size,3,none⟩=some (.int .i64 un)∧w'.cell? ⟨wr.heap.size,4,none⟩=some (.int .i64 ad)∧w'.cell? ⟨wr.heap.size,5,none⟩=some (.int .i64 ph)∧w'.cell? ⟨wr.heap.size,6,none⟩=some (.string ka)) (w4.setCell ⟨og,j,none⟩ (.slice (some ⟨g4,0,none⟩) (gs[j].length+1) c4)) from ⟨(sf_ hne).trans (hX4.at_ (j:=0) rfl),(sf_ hne).trans (hX4.at_ (j:=1) rfl),(sf_ hne).trans (hX4.at_ (j:=2) rfl),(sf_ hne).trans (hX4.at_ (j:=3) rfl),(sf_ hne).trans (hX4.at_ (j:=4) rfl),(sf_ hne).trans (hX4.at_ (j:=5) rfl),(sf_ hne).trans (hX4.at_ (j:=6) rfl)⟩)
     refine hK.out _ _ (by exact ⟨hX4.at_ (j:=0) rfl,hX4.at_ (j:=1) rfl,hX4.at_ (j:=2) rfl,hX4.at_ (j:=3) rfl,hX4.at_ (j:=4) rfl,hX4.at_ (j:=5) rfl,hX4.at_ (j:=6) rfl⟩) (fun hHeld=>?_)
     clear hK K
     try simp only [Act.put,List.setIfInBounds_toArray]
     refine tq 9 ?_;refine wpAnyH_ready (rs:=[10]) k_ s_ ?_
     refine AllReadyH.cons rfl (fun K hK=>?_) AllReadyH.nil
     go_simp
     refine hK.out _ _ (by exact HKB.out) (fun hHeld=>?_)
     clear hK K
     try simp only [Act.put,List.setIfInBounds_toArray,List.set_cons_zero,List.set_cons_succ]
     refine wpAnyH_done k_ ?_ _
     have HP4:=hj_ (HGq.out.push j hGJ HVq.out ⟨ch,pt,pr,un,ad,ph,ka⟩ (by rw [HEnc.out] at hown4;exact hown4) hgW hx4)
     have HB4:=hj_ ((HBq.out.grown hgW HBq.out.size (fun q e=>by have:=(q0g1 HRw.out e).1;omega)).setCell (p:=⟨og,j,none⟩) (by show w.heap.size≤og;have:=(q0g1 HGq.out.out (b:=og) rfl).1;omega) (.slice (some ⟨g4,0,none⟩) (gs[j].length+1) c4))
     have HM4:=hj_ ((HMq.out.grown hgW (fun e=>by have:=(q0g1 HRw.out e.symm).1;omega)).far j (.slice (some ⟨g4,0,none⟩) (gs[j].length+1) c4) (B:=og) (by have:=(q0g1 HGq.out.out (b:=og) rfl).1;omega))
     clear hown4 hg4 hx4 hgW hko fz4 cl4 hX4 d0 d0A;go_wp2_with fail
     go_roundw
     case rel=>exact ⟨k+1,_,HLt.out,by go_num,HB4.out,by rw [HK1.out];exact HM4.out,by rw [HG1.out];exact HP4.out⟩
     case measure=>have:=HLt.out;simp [intOf];omega
    ·go_simp
     refine hK.out _ _ (by exact HKA.out) (fun hHeld=>?_)
     clear hK K
     try simp only [Act.put,List.setIfInBounds_toArray,List.set_cons_zero,List.set_cons_succ]
     refine wpAnyH_ready (rs:=[5]) k_ s_ ?_
     refine AllReadyH.cons rfl (fun K hK=>?_) AllReadyH.nil
     go_simp
     refine hK.out _ _ (by exact HKA.out) (fun hHeld=>?_)
     clear hK K
     try simp only [Act.put,List.setIfInBounds_toArray,List.set_cons_zero,List.set_cons_succ]
     refine wpAnyH_ready (rs:=[8]) k_ s_ ?_
     refine AllReadyH.cons rfl (fun K hK=>?_) AllReadyH.nil
     refine q0o5 rfl _ _ _ rfl (w.heap.size+1) 45 _ 7 72 underlying24 q056 rfl o_ _ gs[j].length (shX.vs gs[j]) (by simp [Act.eval]) HRd.out [.int .i64 ch,.int .i64 pt,.string pr,.int .i64 un,.int .i64 ad,.int .i64 ph,.string ka] 45 _ 1 (by simp [Act.eval]) rfl rfl (fx_one _ _ _ _ _ _ _) (by unfold maxLen;omega) o_ hs6 ?_
     intro g4 c4 w4 hown4 hg4 hx4;have hgW:w2.grownBy w4 v.ownBlock:=⟨hg4.os,hg4.tape,hg4.output,hg4.size,hg4.block⟩;have hko:=q0g2 HGq.out.out (fun q hq=>hgW.block q (q0g1 HGq.out.out hq).2.1 (fun e=>HGq.out.off j v q HVq.out e.symm hq))
     have fz4:=hko.frozenAt j;have cl4:=(hko.cellAt j o_).trans HVq.out
     have hogl4:=Nat.lt_of_lt_of_le hogl hgW.size;have hX4:=q0ku HXq.out hgW (fun q e=>Ne.symm (HNv.out q e))
     have hne:og≠wr.heap.size:=HOg.out;have HKB:=hj_ (show (fun w'=>w'.cell? ⟨wr.heap.size,0,none⟩=some (.int .i64 ch)∧w'.cell? ⟨wr.heap.size,1,none⟩=some (.int .i64 pt)∧w'.cell? ⟨wr.heap.size,2,none⟩=some (.string pr)∧w'.cell? ⟨wr.heap.size,3,none⟩=some (.int .i64 un)∧w'.cell? ⟨wr.heap.size,4,none⟩=some (.int .i64 ad)∧w'.cell? ⟨wr.heap.size,5,none⟩=some (.int .i64 ph)∧w'.cell? ⟨wr.heap.size,6,none⟩=some (.string ka)) (w4.setCell ⟨og,j,none⟩ (.slice (some ⟨g4,0,none⟩) (gs[j].length+1) c4)) from ⟨(sf_ hne).trans (hX4.at_ (j:=0) rfl),(sf_ hne).trans (hX4.at_ (j:=1) rfl),(sf_ hne).trans (hX4.at_ (j:=2) rfl),(sf_ hne).trans (hX4.at_ (j:=3) rfl),(sf_ hne).trans (hX4.at_ (j:=4) rfl),(sf_ hne).trans (hX4.at_ (j:=5) rfl),(sf_ hne).trans (hX4.at_ (j:=6) rfl)⟩)
     refine hK.out _ _ (by exact ⟨hX4.at_ (j:=0) rfl,hX4.at_ (j:=1) rfl,hX4.at_ (j:=2) rfl,hX4.at_ (j:=3) rfl,hX4.at_ (j:=4) rfl,hX4.at_ (j:=5) rfl,hX4.at_ (j:=6) rfl⟩) (fun hHeld=>?_)
     clear hK K
     try simp only [Act.put,List.setIfInBounds_toArray]
     refine tq 9 ?_;refine wpAnyH_ready (rs:=[10]) k_ s_ ?_
     refine AllReadyH.cons rfl (fun K hK=>?_) AllReadyH.nil
     go_simp
     refine hK.out _ _ (by exact HKB.out) (fun hHeld=>?_)
     clear hK K
     try simp only [Act.put,List.setIfInBounds_toArray,List.set_cons_zero,List.set_cons_succ]
     refine wpAnyH_done k_ ?_ _
     have HP4:=hj_ (HGq.out.push j hGJ HVq.out ⟨ch,pt,pr,un,ad,ph,ka⟩ (by rw [HEnc.out] at hown4;exact hown4) hgW hx4)
     have HB4:=hj_ ((HBq.out.grown hgW HBq.out.size (fun q e=>by have:=(q0g1 HRw.out e).1;omega)).setCell (p:=⟨og,j,none⟩) (by show w.heap.size≤og;have:=(q0g1 HGq.out.out (b:=og) rfl).1;omega) (.slice (some ⟨g4,0,none⟩) (gs[j].length+1) c4))
     have HM4:=hj_ ((HMq.out.grown hgW (fun e=>by have:=(q0g1 HRw.out e.symm).1;omega)).far j (.slice (some ⟨g4,0,none⟩) (gs[j].length+1) c4) (B:=og) (by have:=(q0g1 HGq.out.out (b:=og) rfl).1;omega))
     clear hown4 hg4 hx4 hgW hko fz4 cl4 hX4 d0 d0A;go_wp2_with fail
     go_roundw
     case rel=>exact ⟨k+1,_,HLt.out,by go_num,HB4.out,by rw [HK1.out];exact HM4.out,by rw [HG1.out];exact HP4.out⟩
     case measure=>have:=HLt.out;simp [intOf];omega
   ·obtain ⟨hk1,hg1⟩:=HNew.out hm
    have HLV:=hj_ (show lookV true (plL ks) ka (.int .i64 0)=.tuple #[.int .i64 0,.bool false] by
     unfold lookV;rw [if_pos rfl,q03g hm];rfl)
    have HLN:=hj_ (q03g hm);have HK1:=hj_ hk1;have HG1:=hj_ hg1;have HPL:=hj_ (q0ga ks ka);rw [← hgk] at HPL;obtain ⟨oA,oc0,rfl⟩:=qfu HG.out.out;have HNg:=hj_ (show ∀ q,(Value.slice oA gs.length oc0).ownBlock=some q→q≠wr.heap.size from fun q e=>by have:=(q0g1 HG.out.out e).2.1;omega)
    clear HOld HNew hm hk1 hg1 hgk hB;go_wp2_with (first | (go_at_fn g;refine hc2.mono ?_;rintro e w2 ⟨rfl,hb⟩;obtain ⟨HX2,HM2,HG2,HB2,hs2⟩:=HAft.out w2 hb;clear hb) | (at_lookup;refine q002 _ rfl _ _ _ _ rfl _ _ underlying195 sK (KeyTy.str underlying9) w.heap.size (plL ks) ka rfl rfl HM2.out (.int .i64 0) s_ ?_;rw [HLV.out]) | (at_mapUpdate;refine q004 _ rfl _ _ _ _ rfl _ _ underlying195 sK (KeyTy.str underlying9) w.heap.size (plL ks) ka (.int .i64 (gs.length:Int)) rfl rfl rfl HM2.out HLN.out ?_;intro w5 hm5 hg5;rw [HPL.out] at hm5;have HM5:=hj_ hm5;have HG5:=hj_ (HG2.out.grown hg5 (Nat.lt_succ_self _));have HB5:=hj_ (HB2.out.grown hg5 HB2.out.size (fun q e=>by cases e;exact Nat.le_refl _));have hs5:w.heap.size+1≤w5.heap.size:=Nat.le_trans hs2 hg5.size;have HX5:=hj_ (q0ku HX2.out hg5 (fun q e=>by injection e with e;exact e ▸ HNe.out));clear hm5 hg5) | (at_builtin;refine q0j0 rfl _ _ _ rfl (w.heap.size+1) 24 _ 1 24 underlying148 infoSX rfl o_ _ gs.length vals rfl HG5.out.out [.slice none 0 0] 24 _ _ rfl (by first | rfl | simp) rfl (sl_one _ _ _) (by unfold maxLen;omega) o_ hs5 ?_;intro og oc w6 hown6 hg6 hx6;have HG6:=hj_ (HG5.out.new (g:=og) (c:=oc) rfl hown6 hg6 hx6);have HB6:=hj_ (HB5.out.grown hg6 HB5.out.size (fun q e=>by have:=(q0g1 HG5.out.out e).1;omega));have HM6:=hj_ (HM5.out.grown hg6 (fun e=>by have:=(q0g1 HG5.out.out e.symm).1;omega));have hs6:w.heap.size+1≤w6.heap.size:=Nat.le_trans hs5 hg6.size;have HX6:=hj_ (q0ku HX5.out hg6 (fun q e=>Ne.symm (HNg.out q e)));have HOg6:=hj_ (show og≠wr.heap.size from hx6.elim (fun e=>HNg.out og e) (fun h=>by have:=HX5.out.1;omega));clear hown6 hg6 hx6))
    obtain ⟨v,hv0⟩:∃ v:Value,v=.slice none 0 0:=⟨_,rfl⟩;obtain ⟨gs6,hgs6⟩:=ex_ (gs ++ [[]]);have hl6:gs6.length=gs.length+1:=by rw [hgs6];simp
    have hJ6:gs.length<gs6.length:=o_
    have hat:∀ h,gs6[gs.length]'h=[]:=fun h=>by simp [hgs6]
    have hvl:=HG5.out.len;have hG6:=HG6.out;rw [← hgs6,← hl6,← hv0] at hG6;rw [← hl6];have HGq:=hj_ hG6;have HMq:=HM6;have HBq:=HB6;have HXq:=HX6;have HSz:=hj_ hs6;have HVq:=hj_ (show (vals ++ [v])[gs.length]? = some v by rw [← hvl];simp)
    have HJl:=hj_ hJ6;have HN7:=hj_ (show (gs6[gs.length]'hJ6).length≤1000 by rw [hat];exact Nat.zero_le _)
    have HNv:=hj_ (show ∀ q,v.ownBlock=some q→q≠wr.heap.size from fun q e=>by rw [hv0] at e;cases e)
    have HOg:=HOg6;have HRw:=hj_ (show w6.ownsRow (w.heap.size+1) 45 7 v (gs6[gs.length]'hJ6).length (shX.vs (gs6[gs.length]'hJ6)) by rw [hat,hv0];exact World.ownsRow_nil _ _ _ _)
    have HSet:=hj_ (show gs6.set gs.length ((gs6[gs.length]'hJ6) ++ [⟨ch,pt,pr,un,ad,ph,ka⟩])=gs ++ [[⟨ch,pt,pr,un,ad,ph,ka⟩]] by rw [hat,hgs6];simp)
    clear hG6 HG6 HM6 HB6 HX6 hs6 HG5 HM5 HB5 HX5 hs5 HG2 HM2 HB2 HX2 hs2 hvl hat hgs6 hl6;have hGJ:gs.length<gs6.length:=HJl.out;have d0:=(HGq.out.out.cellAt gs.length o_).trans HVq.out
    have x0:=HXq.out.at_ (j:=0) rfl
    have x1:=HXq.out.at_ (j:=1) rfl
    have x2:=HXq.out.at_ (j:=2) rfl
    have x3:=HXq.out.at_ (j:=3) rfl
    have x4:=HXq.out.at_ (j:=4) rfl
    have x5:=HXq.out.at_ (j:=5) rfl
    have x6:=HXq.out.at_ (j:=6) rfl
    have hs6:w.heap.size+1≤w6.drew.heap.size:=HSz.out;have hogl:=(q0g1 HGq.out.out (b:=og) rfl).2.1;have i2:(0:Int)≤((gs.length:Nat):Int):=o_
    have i3:((gs.length:Nat):Int)<((gs6.length:Nat):Int):=o_
    have HRd:=hj_ (show w6.drew.ownsRow (w.heap.size+1) 45 7 v gs6[gs.length].length (shX.vs gs6[gs.length]) from ⟨HRw.out.1,HRw.out.2⟩)
    have HnJ:=HN7.out;have hbA:Below w6.heap.size w6 (w6.drew.alloc (.cells #[.int .i64 ch,.int .i64 pt,.string pr,.int .i64 un,.int .i64 ad,.int .i64 ph,.string ka] 45)):=(br_).drew.alloc lr_ _;have hxA:=HXq.out.below hbA HXq.out.1;have HKA:=hj_ (show (fun w'=>w'.cell? ⟨wr.heap.size,0,none⟩=some (.int .i64 ch)∧w'.cell? ⟨wr.heap.size,1,none⟩=some (.int .i64 pt)∧w'.cell? ⟨wr.heap.size,2,none⟩=some (.string pr)∧w'.cell? ⟨wr.heap.size,3,none⟩=some (.int .i64 un)∧w'.cell? ⟨wr.heap.size,4,none⟩=some (.int .i64 ad)∧w'.cell? ⟨wr.heap.size,5,none⟩=some (.int .i64 ph)∧w'.cell? ⟨wr.heap.size,6,none⟩=some (.string ka)) (w6.drew.alloc (.cells #[.int .i64 ch,.int .i64 pt,.string pr,.int .i64 un,.int .i64 ad,.int .i64 ph,.string ka] 45)) from ⟨hxA.at_ (j:=0) rfl,hxA.at_ (j:=1) rfl,hxA.at_ (j:=2) rfl,hxA.at_ (j:=3) rfl,hxA.at_ (j:=4) rfl,hxA.at_ (j:=5) rfl,hxA.at_ (j:=6) rfl⟩)
    have d0A:=(hbA.cell (p:=⟨og,gs.length,none⟩) hogl).trans d0;have hoglA:=Nat.lt_of_lt_of_le hogl hbA.size;clear hxA hbA;refine wp_region_held_drew (S:=fun w'=>w'.cell? ⟨wr.heap.size,0,none⟩=some (.int .i64 ch)∧w'.cell? ⟨wr.heap.size,1,none⟩=some (.int .i64 pt)∧w'.cell? ⟨wr.heap.size,2,none⟩=some (.string pr)∧w'.cell? ⟨wr.heap.size,3,none⟩=some (.int .i64 un)∧w'.cell? ⟨wr.heap.size,4,none⟩=some (.int .i64 ad)∧w'.cell? ⟨wr.heap.size,5,none⟩=some (.int .i64 ph)∧w'.cell? ⟨wr.heap.size,6,none⟩=some (.string ka)) k_ (by first | exact ⟨x0,x1,x2,x3,x4,x5,x6⟩) (fun hHeld=>?_)
    refine tq 0 ?_;refine tq 1 ?_;refine tq 2 ?_;refine tq 3 ?_;refine tq 4 ?_;refine tq 6 ?_;refine wpAnyH_ready (rs:=[5,7]) k_ s_ ?_
    refine AllReadyH.cons rfl (fun K hK=>?_) (AllReadyH.cons rfl (fun K hK=>?_) AllReadyH.nil)
    ·go_simp
     refine hK.out _ _ (by exact ⟨x0,x1,x2,x3,x4,x5,x6⟩) (fun hHeld=>?_)
     clear hK K
     try simp only [Act.put,List.setIfInBounds_toArray,List.set_cons_zero,List.set_cons_succ]
     refine wpAnyH_ready (rs:=[7]) k_ s_ ?_
     refine AllReadyH.cons rfl (fun K hK=>?_) AllReadyH.nil
     go_simp
     refine hK.out _ _ (by exact HKA.out) (fun hHeld=>?_)
     clear hK K
     try simp only [Act.put,List.setIfInBounds_toArray,List.set_cons_zero,List.set_cons_succ]
     refine wpAnyH_ready (rs:=[8]) k_ s_ ?_
     refine AllReadyH.cons rfl (fun K hK=>?_) AllReadyH.nil
     refine q0o5 rfl _ _ _ rfl (w.heap.size+1) 45 _ 7 72 underlying24 q056 rfl o_ _ gs6[gs.length].length (shX.vs gs6[gs.length]) (by simp [Act.eval];exact hv0.symm) HRd.out [.int .i64 ch,.int .i64 pt,.string pr,.int .i64 un,.int .i64 ad,.int .i64 ph,.string ka] 45 _ 1 (by simp [Act.eval]) rfl rfl (fx_one _ _ _ _ _ _ _) (by unfold maxLen;omega) o_ hs6 ?_
     intro g4 c4 w4 hown4 hg4 hx4;have hgW:w6.grownBy w4 v.ownBlock:=⟨hg4.os,hg4.tape,hg4.output,hg4.size,hg4.block⟩;have hko:=q0g2 HGq.out.out (fun q hq=>hgW.block q (q0g1 HGq.out.out hq).2.1 (fun e=>HGq.out.off gs.length v q HVq.out e.symm hq))
     have fz4:=hko.frozenAt gs.length;have cl4:=(hko.cellAt gs.length o_).trans HVq.out
     have hogl4:=Nat.lt_of_lt_of_le hogl hgW.size;have hX4:=q0ku HXq.out hgW (fun q e=>Ne.symm (HNv.out q e))
     have hne:og≠wr.heap.size:=HOg.out;have HKB:=hj_ (show (fun w'=>w'.cell? ⟨wr.heap.size,0,none⟩=some (.int .i64 ch)∧w'.cell? ⟨wr.heap.size,1,none⟩=some (.int .i64 pt)∧w'.cell? ⟨wr.heap.size,2,none⟩=some (.string pr)∧w'.cell? ⟨wr.heap.size,3,none⟩=some (.int .i64 un)∧w'.cell? ⟨wr.heap.size,4,none⟩=some (.int .i64 ad)∧w'.cell? ⟨wr.heap.size,5,none⟩=some (.int .i64 ph)∧w'.cell? ⟨wr.heap.size,6,none⟩=some (.string ka)) (w4.setCell ⟨og,gs.length,none⟩ (.slice (some ⟨g4,0,none⟩) (gs6[gs.length].length+1) c4)) from ⟨(sf_ hne).trans (hX4.at_ (j:=0) rfl),(sf_ hne).trans (hX4.at_ (j:=1) rfl),(sf_ hne).trans (hX4.at_ (j:=2) rfl),(sf_ hne).trans (hX4.at_ (j:=3) rfl),(sf_ hne).trans (hX4.at_ (j:=4) rfl),(sf_ hne).trans (hX4.at_ (j:=5) rfl),(sf_ hne).trans (hX4.at_ (j:=6) rfl)⟩)
     refine hK.out _ _ (by exact ⟨hX4.at_ (j:=0) rfl,hX4.at_ (j:=1) rfl,hX4.at_ (j:=2) rfl,hX4.at_ (j:=3) rfl,hX4.at_ (j:=4) rfl,hX4.at_ (j:=5) rfl,hX4.at_ (j:=6) rfl⟩) (fun hHeld=>?_)
     clear hK K
     try simp only [Act.put,List.setIfInBounds_toArray]
     refine tq 9 ?_;refine wpAnyH_ready (rs:=[10]) k_ s_ ?_
     refine AllReadyH.cons rfl (fun K hK=>?_) AllReadyH.nil
     go_simp
     refine hK.out _ _ (by exact HKB.out) (fun hHeld=>?_)
     clear hK K
     try simp only [Act.put,List.setIfInBounds_toArray,List.set_cons_zero,List.set_cons_succ]
     refine wpAnyH_done k_ ?_ _
     have HP4:=hj_ (HGq.out.push gs.length hGJ HVq.out ⟨ch,pt,pr,un,ad,ph,ka⟩ (by rw [HEnc.out] at hown4;exact hown4) hgW hx4)
     have HB4:=hj_ ((HBq.out.grown hgW HBq.out.size (fun q e=>by have:=(q0g1 HRw.out e).1;omega)).setCell (p:=⟨og,gs.length,none⟩) (by show w.heap.size≤og;have:=(q0g1 HGq.out.out (b:=og) rfl).1;omega) (.slice (some ⟨g4,0,none⟩) (gs6[gs.length].length+1) c4))
     have HM4:=hj_ ((HMq.out.grown hgW (fun e=>by have:=(q0g1 HRw.out e.symm).1;omega)).far gs.length (.slice (some ⟨g4,0,none⟩) (gs6[gs.length].length+1) c4) (B:=og) (by have:=(q0g1 HGq.out.out (b:=og) rfl).1;omega))
     clear hown4 hg4 hx4 hgW hko fz4 cl4 hX4 d0 d0A;go_wp2_with fail
     go_roundw
     case rel=>exact ⟨k+1,_,HLt.out,by go_num,HB4.out,by rw [HK1.out];exact HM4.out,by rw [HG1.out,← HSet.out];exact HP4.out⟩
     case measure=>have:=HLt.out;simp [intOf];omega
    ·go_simp
     refine hK.out _ _ (by exact HKA.out) (fun hHeld=>?_)
     clear hK K
     try simp only [Act.put,List.setIfInBounds_toArray,List.set_cons_zero,List.set_cons_succ]
     refine wpAnyH_ready (rs:=[5]) k_ s_ ?_
     refine AllReadyH.cons rfl (fun K hK=>?_) AllReadyH.nil
     go_simp
     refine hK.out _ _ (by exact HKA.out) (fun hHeld=>?_)
     clear hK K
     try simp only [Act.put,List.setIfInBounds_toArray,List.set_cons_zero,List.set_cons_succ]
     refine wpAnyH_ready (rs:=[8]) k_ s_ ?_
     refine AllReadyH.cons rfl (fun K hK=>?_) AllReadyH.nil
     refine q0o5 rfl _ _ _ rfl (w.heap.size+1) 45 _ 7 72 underlying24 q056 rfl o_ _ gs6[gs.length].length (shX.vs gs6[gs.length]) (by simp [Act.eval];exact hv0.symm) HRd.out [.int .i64 ch,.int .i64 pt,.string pr,.int .i64 un,.int .i64 ad,.int .i64 ph,.string ka] 45 _ 1 (by simp [Act.eval]) rfl rfl (fx_one _ _ _ _ _ _ _) (by unfold maxLen;omega) o_ hs6 ?_
     intro g4 c4 w4 hown4 hg4 hx4;have hgW:w6.grownBy w4 v.ownBlock:=⟨hg4.os,hg4.tape,hg4.output,hg4.size,hg4.block⟩;have hko:=q0g2 HGq.out.out (fun q hq=>hgW.block q (q0g1 HGq.out.out hq).2.1 (fun e=>HGq.out.off gs.length v q HVq.out e.symm hq))
     have fz4:=hko.frozenAt gs.length;have cl4:=(hko.cellAt gs.length o_).trans HVq.out
     have hogl4:=Nat.lt_of_lt_of_le hogl hgW.size;have hX4:=q0ku HXq.out hgW (fun q e=>Ne.symm (HNv.out q e))
     have hne:og≠wr.heap.size:=HOg.out;have HKB:=hj_ (show (fun w'=>w'.cell? ⟨wr.heap.size,0,none⟩=some (.int .i64 ch)∧w'.cell? ⟨wr.heap.size,1,none⟩=some (.int .i64 pt)∧w'.cell? ⟨wr.heap.size,2,none⟩=some (.string pr)∧w'.cell? ⟨wr.heap.size,3,none⟩=some (.int .i64 un)∧w'.cell? ⟨wr.heap.size,4,none⟩=some (.int .i64 ad)∧w'.cell? ⟨wr.heap.size,5,none⟩=some (.int .i64 ph)∧w'.cell? ⟨wr.heap.size,6,none⟩=some (.string ka)) (w4.setCell ⟨og,gs.length,none⟩ (.slice (some ⟨g4,0,none⟩) (gs6[gs.length].length+1) c4)) from ⟨(sf_ hne).trans (hX4.at_ (j:=0) rfl),(sf_ hne).trans (hX4.at_ (j:=1) rfl),(sf_ hne).trans (hX4.at_ (j:=2) rfl),(sf_ hne).trans (hX4.at_ (j:=3) rfl),(sf_ hne).trans (hX4.at_ (j:=4) rfl),(sf_ hne).trans (hX4.at_ (j:=5) rfl),(sf_ hne).trans (hX4.at_ (j:=6) rfl)⟩)
     refine hK.out _ _ (by exact ⟨hX4.at_ (j:=0) rfl,hX4.at_ (j:=1) rfl,hX4.at_ (j:=2) rfl,hX4.at_ (j:=3) rfl,hX4.at_ (j:=4) rfl,hX4.at_ (j:=5) rfl,hX4.at_ (j:=6) rfl⟩) (fun hHeld=>?_)
     clear hK K
     try simp only [Act.put,List.setIfInBounds_toArray]
     refine tq 9 ?_;refine wpAnyH_ready (rs:=[10]) k_ s_ ?_
     refine AllReadyH.cons rfl (fun K hK=>?_) AllReadyH.nil
     go_simp
     refine hK.out _ _ (by exact HKB.out) (fun hHeld=>?_)
     clear hK K
     try simp only [Act.put,List.setIfInBounds_toArray,List.set_cons_zero,List.set_cons_succ]
     refine wpAnyH_done k_ ?_ _
     have HP4:=hj_ (HGq.out.push gs.length hGJ HVq.out ⟨ch,pt,pr,un,ad,ph,ka⟩ (by rw [HEnc.out] at hown4;exact hown4) hgW hx4)
     have HB4:=hj_ ((HBq.out.grown hgW HBq.out.size (fun q e=>by have:=(q0g1 HRw.out e).1;omega)).setCell (p:=⟨og,gs.length,none⟩) (by show w.heap.size≤og;have:=(q0g1 HGq.out.out (b:=og) rfl).1;omega) (.slice (some ⟨g4,0,none⟩) (gs6[gs.length].length+1) c4))
     have HM4:=hj_ ((HMq.out.grown hgW (fun e=>by have:=(q0g1 HRw.out e.symm).1;omega)).far gs.length (.slice (some ⟨g4,0,none⟩) (gs6[gs.length].length+1) c4) (B:=og) (by have:=(q0g1 HGq.out.out (b:=og) rfl).1;omega))
     clear hown4 hg4 hx4 hgW hko fz4 cl4 hX4 d0 d0A;go_wp2_with fail
     go_roundw
     case rel=>exact ⟨k+1,_,HLt.out,by go_num,HB4.out,by rw [HK1.out];exact HM4.out,by rw [HG1.out,← HSet.out];exact HP4.out⟩
     case measure=>have:=HLt.out;simp [intOf];omega
  ·obtain rfl:k=l.length:=by omega
   rw [List.take_length] at HG;have HBr:=hj_ hB;clear hB hM hG;go_wp2_with fail;go_ret;exact ⟨_,vals,rfl,HG.out.weak (Nat.le_succ _),HBr.out⟩
section
open Go.RowKit Go.Sort
theorem q0l2 (s:ByteArray) (v st ti:Int):∀ u ∈ [Value.string s,.int .i64 v,.int .i64 st,.int .i64 ti],u.oneCell' = true:=by simp;exact ⟨rfl,rfl,rfl,rfl⟩
theorem q0lc:(prog.info? 56).map (fun i=>(i.zero,i.size,i.bytes))=some (some (.agg #[.string ⟨#[]⟩,.int .i64 0,.int .i64 0,.int .i64 0]),4,40):=k_
instance:Inhabited Gl:=⟨⟨⟨#[]⟩,0,0,0⟩⟩
def glC (x y:Gl):Int:=cmpS x.s y.s
theorem glC_lt (x y:Gl):ltOf glC x y=bl x.s y.s:=q0kx _ _
theorem q0l1:SWO (ltOf glC):=by
 refine ⟨fun x=>?_,fun x y z h1 h2=>?_,fun x y z h1 h2=>?_⟩
 ·rw [glC_lt];exact bl_irr _
 ·rw [glC_lt] at *;exact bl_tr _ _ _ h1 h2
 ·rw [glC_lt] at *
  cases h3:bl x.s z.s with
  | false=>rfl
  | true =>
   cases h4:bl y.s x.s with
   | true=>have:=bl_tr _ _ _ h4 h3;unfold bl at h2;rw [this] at h2;cases h2
   | false=>rw [bl_eq h1 h4] at h3;rw [h3] at h2;cases h2
theorem q0l6 (x y:Gl) (W:World):Calls prog 97 #[.agg (shG.cs x).toArray,.agg (shG.cs y).toArray] W fun e w'=>e=.returned (.int .i64 (glC x y))∧∃ q os',w' = grow (W.drewN q) os':=by
 obtain ⟨s1,v1,a1,t1⟩:=x;obtain ⟨s2,v2,a2,t2⟩:=y;show Calls prog 97 #[.agg #[.string s1,.int .i64 v1,.int .i64 a1,.int .i64 t1],.agg #[.string s2,.int .i64 v2,.int .i64 a2,.int .i64 t2]] W fun e w'=>e=.returned (.int .i64 (cmpS s1 s2))∧∃ q os',w' = grow (W.drewN q) os'
 have HC:=hj_ (fun (w:World)=>q0kw s1 s2 w)
 go_enter func97,ntmps97
 go_wp2_with fail;refine (HC.out _).mono ?_;rintro e w1 ⟨rfl,rfl⟩;go_wp2_with fail;go_ret;exact ⟨rfl,0,_,by rw [alloc_eq_grow,alloc_eq_grow,grow_grow];rfl⟩
theorem gl_in {B:Nat} {l:List Gl} (h:Cells w B (shG.vs l)):shG.In w (some ⟨B,0,none⟩) l.length l :=
 ⟨rfl,shG.vs_length l,fun _=>⟨B,0,rfl,h.1,fun j u hu=>by rw [Nat.zero_add];exact h.at_ hu⟩⟩
theorem q0kv {base:Nat} {e:TypeId} {z g n c:Nat} {xs:List Value} (h:w.ownsRow base e z (.slice (some ⟨g,0,none⟩) n c) n xs):Cells w g xs :=
 ⟨(q0g1 h (b:=g) rfl).2.1,fun j u hu=>⟨(h.cellAt j (by have:=(List.getElem?_eq_some_iff.1 hu).1;have:=h.1;omega)).trans hu,h.frozenAt j⟩⟩
theorem q0o2 (g cap:Nat) (l:List Gl) (w:World) (hC:Cells w g (shG.vs l)) (hn:l.length≤1000) :
  Calls prog 96 #[.slice (some ⟨g,0,none⟩) l.length cap,.func (.func 97) #[] #[]] w fun e w'=>e=.returned (.tuple #[])∧∃ d:List Gl,d.Perm l∧d.Pairwise (fun x y=>bl y.s x.s=false)∧Cells w' g (shG.vs d)∧w.grownBy w' (some g):=by
 have hk:∀ x:Gl,(shG.cs x).length=4:=fun x=>rfl
 have hC':Cells w g (l.flatMap shG.cs):=hC;have hH:=q053 hk hC';have hsz:l.toArray.size=l.length:=s_
 rw [← hsz];have hc:=slices_SortFunc_f96 4 (fun w=>k_) (fun w=>k_) shG.cs hk (fun x v hv=>shG.one x v hv) glC q0l1 97 #[] g 0 cap l.toArray w (enters_of func97 k_ rfl) (fun _ _ _ _ x y=>q0l6 x y _) hH hC.1 (by rw [hsz];omega)
 refine hc.mono fun e w' ⟨he,d',n,os,hp,hs,hw⟩=>⟨he,d'.toList,?_,?_,?_,?_⟩
 ·have:=q05h hp
  simpa using this
 ·have:=q05t hp.1.symm hs
  refine this.imp fun {x y} h=>?_
  rw [glC_lt] at h;exact h
 ·show Cells w' g (d'.toList.flatMap shG.cs)
  rw [hw];refine q04k hk (q054 hH hC.1 hp.1) ?_;exact Nat.lt_of_lt_of_le hC.1 (q04y d').size
 ·rw [hw]
  exact q04y d'
theorem q0o3 (w:World):Calls prog 96 #[.slice none 0 0,.func (.func 97) #[] #[]] w fun e w'=>e=.returned (.tuple #[])∧w' = w :=
 slices_SortFunc_none_f96 (α:=Unit) none 0 _ w
theorem q0l7 {q:List Fx} (h:0<q.length):q.headD fx0=q[0]:=by
 cases q with
 | nil=>cases h
 | cons a l=>rfl
def cbP (P:List PC) (gs:List (List Fx)):List Gl:=(gs.filter cblB).map (cbl P)
theorem q0kr (P:List PC) (gs:List (List Fx)) (q:List Fx):cbP P (gs ++ [q])=if (q.headD fx0).cb=⟨#[]⟩ then cbP P gs else cbP P gs ++ [cbl P q]:=by
 unfold cbP;rw [List.filter_append,List.map_append]
 by_cases h:(q.headD fx0).cb=⟨#[]⟩
 ·have e:[q].filter cblB=[]:=by
   have:cblB q=false:=decide_eq_false (fun h2=>h2 h)
   simp [List.filter,this]
  rw [if_pos h,e];simp
 ·have e:[q].filter cblB=[q]:=by
   have:cblB q=true:=decide_eq_true h
   simp [List.filter,this]
  rw [if_neg h,e];rfl
theorem gs_ne:∀ q ∈ gsV Fx.cb X,0<q.length∧q.length≤X.length∧∀ x ∈ q,x ∈ X:=fun q hq=>by
 unfold gsV at hq;obtain ⟨k,hk,rfl⟩:=List.mem_map.1 hq;obtain ⟨x,hx,e⟩:=(q0fi _ _ _).1 hk;exact ⟨List.length_pos_iff.2 (List.ne_nil_of_mem (List.mem_filter.2 ⟨hx,by simpa using e⟩)),List.length_filter_le _ _,fun y hy=>(List.mem_filter.1 hy).1⟩
theorem q0l4 (A0:Option Addr) (n0 d0:Nat) (A1:Option Addr) (n1 d1:Nat) (A2:Option Addr) (d2:Nat) (P:List PC) (X:List Fx) (w:World)
  (hp:shPr.In w A1 n1 P) (hn1:n1≤9223372036854775806) (hx:shX.In w A2 X.length X) (hX:X.length≤1000) (hW:WOk P X) :
  Calls prog 52 #[.agg #[.slice A0 n0 d0,.slice A1 n1 d1,.slice A2 X.length d2]] w fun e w'=>∃ C A c,e=.returned (.slice A C.length c)∧Cbs P X C∧shG.In w' A C.length C∧Below w.heap.size w w':=by
 obtain ⟨W,HW,HB0,HK⟩:=bx3 w (.slice A0 n0 d0) (.slice A1 n1 d1) (.slice A2 X.length d2) 75;have hB:=Below.refl W.heap.size W;obtain ⟨c0,c1,c2⟩:=HK.out W hB;have HGr:=hj_ (q0l3 93 #[] A2 X.length d2 X W (enters_of func93 k_ rfl) (hx.below HB0.out) hX (fun i h W' _=>q0l5 i X[i] W'))
 have HWt:=hj_ (fun (q:List Fx) (hq:q.length≤X.length∧∀ x ∈ q,x ∈ X) (A:Option Addr) (c:Nat) (w':World) (hb:Below W.heap.size W w') (hi:shX.In w' A q.length q)=>q0la A0 n0 d0 A1 n1 d1 A2 X.length d2 P A c q w' ((hp.below HB0.out).below hb) hn1 hi o_ (hW.sub hq.2))
 have HPh:=hj_ (fun (q:List Fx) (hq:0<q.length∧q.length≤X.length) (A:Option Addr) (c:Nat) (w':World) (hi:shX.In w' A q.length q)=>q0l9 A c q w' hi hq.1 o_)
 have hmem:=gs_ne (X:=X);have hgl:=ksV_le Fx.cb X;rw [← q0es] at hgl;have HCv:=hj_ (show cbP P (gsV Fx.cb X)=cblV P X from rfl)
 have HXl:=hj_ hX;clear hp hn1 hx hW hX;generalize gsV Fx.cb X=gs at *
 go_enter func52,ntmps52
 go_wp2_with fail;rw [← HW.out];go_wp2_with fail;refine HGr.out.mono ?_;rintro e w5 ⟨ov,vals,rfl,hG,hb5⟩;obtain ⟨oA,oc,rfl⟩:=qfu hG.out;have HG:=hj_ hG;have HB5:=hj_ hb5;have HMem:=hj_ hmem;have HGl:=hj_ hgl;clear hG hb5 hmem hgl HGr hB c0 c1 c2;go_wp2_with fail
 go_loopw [3,12] (fun vo iv wr=>∃ k:Nat,k≤gs.length∧iv=.int .i64 k∧wr.ownsRow w5.heap.size 56 4 vo (cbP P (gs.take k)).length (shG.vs (cbP P (gs.take k)))∧Below w5.heap.size w5 wr) (fun _ iv _=>gs.length-(intOf iv).toNat)
 case atStart=>exact ⟨0,Nat.zero_le _,rfl,World.ownsRow_nil _ _ _ _,br_⟩
 case round =>
  obtain ⟨k,hk,rfl,hown,hB⟩:=hrel;obtain ⟨Ao,co,rfl⟩:=qfu hown
  by_cases hlt:k<gs.length
  case neg =>
   obtain rfl:k=gs.length:=o_
   rw [List.take_length,HCv.out] at hown;have hlen:(cblV P X).length≤1000:=by
    have h1:(cbP P gs).length≤gs.length:=by unfold cbP;rw [List.length_map];exact List.length_filter_le _ _
    rw [HCv.out] at h1
    have:=HGl.out;have:=HXl.out;omega
   rw [List.take_length,HCv.out];have HBw:=hj_ (HB0.out.trans ((ht_ HB5.out hB).mono HB0.out.size));have HLn:=hj_ hlen;have hsb:=hown.2
   rcases hsb with ⟨e1,e2⟩ | ⟨g,cap,cur,e1,hg0,_⟩
   ·injection e1 with e1 e3 e4
    subst e1 e4;have hc0:cblV P X=[]:=List.length_eq_zero_iff.1 e3;have HC0:=hj_ hc0;rw [hc0];clear hown e2 e3 hB hlen hc0;go_wp2_with fail;refine (q0o3 _).mono ?_;rintro e w6 ⟨rfl,rfl⟩;go_wp2_with fail;go_ret;exact ⟨[],none,0,rfl,⟨by rw [HC0.out],List.Pairwise.nil⟩,Sh.In.nil _ _,HBw.out⟩
   ·injection e1 with e1 e3 e4
    subst e1 e4;have HCe:=hj_ (q0kv hown);have HG0:=hj_ hg0;clear hown e3 hB hlen hg0;generalize hcv:cblV P X=cv at *;have HCV:=hj_ hcv;clear hcv;go_wp2_with fail;refine (q0o2 g _ cv _ HCe.out HLn.out).mono ?_;rintro e w6 ⟨rfl,d,hpd,hsd,hcd,hgd⟩;have HBf:=hj_ (HBw.out.grown hgd HBw.out.size (fun q e=>by
     cases e
     have h1:=HB0.out.size;have h2:=HB5.out.size;have:=HG0.out;omega))
    have HCd:=hj_ hcd;have HPd:=hj_ hpd;have HSd:=hj_ hsd;clear hpd hsd hcd hgd;go_wp2_with fail;go_ret;exact ⟨d,some ⟨g,0,none⟩,co,by rw [HPd.out.length_eq];rfl,⟨by rw [HCV.out];exact HPd.out,HSd.out⟩,gl_in HCd.out,HBf.out⟩
  case pos =>
   obtain ⟨og,oc',hoe,hog,hogl⟩:=HG.out.out.form o_
   injection hoe with hoe h2 h3
   subst hoe h3;clear h2;obtain ⟨v,hv,hrow⟩:=HG.out.row k hlt;obtain ⟨hq1,hq2⟩:=HMem.out gs[k] (List.getElem_mem hlt);obtain ⟨gb,gc,rfl,hgb,hgbl⟩:=hrow.form hq1;have hI:=(Sh.In.of_own (S:=shX) hrow rfl).below hB;have d0:=(hB.cell (p:=⟨og,k,none⟩) hogl).trans ((HG.out.out.cellAt k o_).trans hv)
   obtain ⟨b,o,he,hbl,hcell⟩:=fx_at hI hq1
   injection he with he
   injection he with he1 he2
   subst he1 he2;have d6:=(hcell 0 hq1).2.2.2.2.2.2;simp only [Nat.zero_mul,Nat.zero_add] at d6;have hstep:=q0kr P (gs.take k) gs[k];rw [← List.take_succ_eq_append_getElem hlt] at hstep;have hnm:(gs[k].headD fx0).cb=(gs[k]'hlt)[0].cb:=by rw [q0l7 hq1]
   have hcbl:cbl P gs[k]=⟨(gs[k]'hlt)[0].cb,(gs[k].length:Int),sumW P gs[k],phOf gs[k]⟩:=by unfold cbl;rw [hnm]
   rw [hnm,hcbl] at hstep;have hcl:(cbP P (gs.take k)).length≤1000:=by
    have h1:(cbP P (gs.take k)).length≤(gs.take k).length:=by unfold cbP;rw [List.length_map];exact List.length_filter_le _ _
    rw [List.length_take] at h1
    have:=HGl.out;have:=HXl.out;omega
   have hws:=HWt.out gs[k] hq2 (some ⟨gb,0,none⟩) gc;have hps:=HPh.out gs[k] ⟨hq1,hq2.1⟩ (some ⟨gb,0,none⟩) gc;have HWs:=hj_ (fun (w':World) (hb:Below w5.heap.size w5 w')=>hws w' (ht_ HB5.out hb))
   have HPs:=hj_ hps;have HI:=hj_ (Sh.In.of_own (S:=shX) hrow rfl);have HStep:=hj_ hstep;have i0:(0:Int)≤(k:Int):=o_
   have i1:(k:Int)<(gs.length:Int):=o_
   have i2:(0:Int)<((gs[k].length:Nat):Int):=by have:=hq1;omega
   have w0:IntKind.i64.wrap ((k:Int)+1)=(k:Int)+1:=IntWalk.i64_in _ (by have:=HGl.out;have:=HXl.out;omega)
   have HLt:=hj_ hlt;have hlo:=Nat.lt_of_lt_of_le hogl hB.size;clear hv hrow hq2 hI hgbl hcell hstep hnm hcbl hws hps hogl;generalize hqq:gs[k]=q at *;clear hqq;generalize hnn:(q[0]'hq1).cb=nm at *;clear hnn;generalize sumW P q=sw at *;generalize phOf q=pq at *;have HOwn:=hj_ hown;have HBk:=hj_ hB;generalize hce:cbP P (gs.take k)=cp at *;clear hce;have hbq:=q1w nm ⟨#[]⟩
   by_cases hn:nm=⟨#[]⟩
   ·subst hn
    rw [decide_eq_true rfl] at hbq;have hst:=HStep.out;rw [if_pos rfl] at hst;have HSt:=hj_ hst;clear hown hB hst hq1 hcl HStep;go_wp2_with fail
    go_roundw
    case rel=>exact ⟨k+1,HLt.out,by go_num,by rw [HSt.out];exact HOwn.out,HBk.out⟩
    case measure=>have:=HLt.out;simp [intOf];omega
   ·rw [decide_eq_false hn] at hbq
    have hce:nm.toList.isEmpty=false:=by
     rw [ByteArray.toList_eq]
     cases h:nm.data.toList with
     | nil=>exact absurd (ByteArray.ext (Array.ext' h)) hn
     | cons a l=>rfl
    have hst:=HStep.out;rw [if_neg hn] at hst;have HSt:=hj_ hst;clear hown hB hst hn HStep;obtain ⟨c0,c1,c2⟩:=HK.out wr (ht_ HB5.out HBk.out);have hwl:w.heap.size<wr.heap.size:=Nat.lt_of_lt_of_le (by rw [HW.out];simp) (ht_ HB5.out HBk.out).size
    go_wp2_with fail;refine (HWs.out _ HBk.out (HI.out.below HBk.out)).mono ?_;rintro e w6 ⟨rfl,hb⟩;have HO6:=hj_ (q0g2 HOwn.out fun b hq=>hb.block b (q0g1 HOwn.out hq).2.1)
    have HB6:=hj_ (ht_ HBk.out hb);clear hb d0 d6 c0 c1 c2 hwl;go_wp2_with fail;refine (HPs.out _ (HI.out.below HB6.out)).mono ?_;rintro e w7 ⟨rfl,hb⟩;have hown:=q0g2 HO6.out fun b hq=>hb.block b (q0g1 HO6.out hq).2.1
    have hB:=ht_ HB6.out hb;have hsz:w5.heap.size≤w7.heap.size:=hB.size;clear hb;go_wp2_with (at_builtin;refine q003 rfl _ _ _ rfl w5.heap.size _ _ 4 40 underlying50 q0lc rfl o_ _ cp.length (shG.vs cp) rfl hown [.string nm,.int .i64 (q.length:Int),.int .i64 sw,.int .i64 pq] _ _ _ rfl (by first | rfl | simp) rfl (q0l2 _ _ _ _) (by unfold maxLen;omega) o_ (by first | omega | (simp;omega) | simp) ?_;intro g cap w1 hown1 hg1)
    have HOn:=hj_ hown1;have HBn:=hj_ (hB.grown hg1 hsz (fun r e=>(q0g1 hown e).1))
    clear hown1 hg1 hown hB
    go_roundw
    case rel=>exact ⟨k+1,HLt.out,by go_num,by rw [HSt.out,shG.vs_append,shG.vs_one1,List.length_append];exact HOn.out,HBn.out⟩
    case measure=>have:=HLt.out;simp [intOf];omega
theorem q0oa (A0:Option Addr) (n0 d0:Nat) (A1:Option Addr) (n1 d1:Nat) (A2:Option Addr) (d2:Nat) (P:List PC) (X:List Fx) (w:World) (hck:∀ w',Below w.heap.size w w'→Calls prog 62 #[.agg #[.slice A0 n0 d0,.slice A1 n1 d1,.slice A2 X.length d2]] w' fun e w''=>e=.returned (.int .i64 0)∧Below w'.heap.size w' w'')
  (hp:shPr.In w A1 n1 P) (hn1:n1≤9223372036854775806) (hx:shX.In w A2 X.length X) (hX:X.length≤1000) (hW:WOk P X) :
  Calls prog 18 #[.agg #[.slice A0 n0 d0,.slice A1 n1 d1,.slice A2 X.length d2]] w fun e w'=>∃ C A c,e=.returned (.tuple #[.slice A C.length c,.int .i64 0])∧Cbs P X C∧shG.In w' A C.length C∧Below w.heap.size w w':=by
 have HO:=hj_ (fun w' (hb:Below w.heap.size w w')=>q0ip A0 n0 d0 A1 n1 d1 A2 X.length d2 0 w' (fun w2 h2=>hck w2 (ht_ hb h2)))
 have HH:=hj_ (fun w' (hb:Below w.heap.size w w')=>q0l4 A0 n0 d0 A1 n1 d1 A2 d2 P X w' (hp.below hb) hn1 (hx.below hb) hX hW)
 obtain ⟨W,HW,HB0,HK⟩:=bx3 w (.slice A0 n0 d0) (.slice A1 n1 d1) (.slice A2 X.length d2) 26;have hB:=Below.refl W.heap.size W;obtain ⟨c0,c1,c2⟩:=HK.out W hB;clear hck hp hn1 hx hX hW
 go_enter func18,ntmps18
 go_wp2_with fail;rw [← HW.out];go_wp2_with fail;refine up_ (HO.out _ (ht_ HB0.out hB)) hB fun wk hB=>?_;obtain ⟨W1,hW1⟩:=ex_ (wk.alloc (.cells #[.slice A0 n0 d0,.slice A1 n1 d1,.slice A2 X.length d2] 75));have hb1:Below wk.heap.size wk W1:=by rw [hW1];exact (br_).alloc lr_ _
 have hx1:Cells W1 wk.heap.size [.slice A0 n0 d0,.slice A1 n1 d1,.slice A2 X.length d2]:=by rw [hW1];exact Cells.fresh wk [.slice A0 n0 d0,.slice A1 n1 d1,.slice A2 X.length d2] _
 have x0:=hx1.at_ (j:=0) rfl
 have x1:=hx1.at_ (j:=1) rfl
 have x2:=hx1.at_ (j:=2) rfl
 have hl1:=hx1.1;have HW1:=hj_ hW1;replace hB:=ht_ hB hb1;clear hb1 hx1 hW1 c0 c1 c2;go_wp2_with fail;rw [← HW1.out];go_wp2_with fail;refine (HH.out _ (ht_ HB0.out hB)).mono ?_;rintro e w5 ⟨C,A,c,rfl,hC,hI,hb⟩;have HF:=hj_ (And.intro hC (And.intro hI (HB0.out.trans ((ht_ hB hb).mono HB0.out.size))));clear hC hI hb hB x0 x1 x2 hl1;go_wp2_with fail;go_ret2;exact ⟨C,A,c,rfl,HF.out.1,HF.out.2.1,HF.out.2.2⟩
end
theorem sb_bd {α:Type} {f:α→Int} {B:Int}:∀ {l:List α},(∀ x ∈ l,0≤f x∧f x≤B)→0≤sb f l∧sb f l≤l.length*B
 | [],_=>⟨Int.le_refl _,by simp [sb]⟩
 | a :: l,h=>by
  have h1:=h a s_
  have h2:=sb_bd (l:=l) fun x hx=>h x (by simp [hx])
  rw [sb,List.length_cons,Int.natCast_add,Int.add_mul];simp only [Int.natCast_one,Int.one_mul];omega
structure Right59 (w:World) (A0:Option Addr) (n0 d0:Nat) (A1:Option Addr) (n1 d1:Nat) (A2:Option Addr) (d2:Nat) (P:List PC) (X:List Fx):Prop where
 ck:∀ w',Below w.heap.size w w'→Calls prog 62 #[.agg #[.slice A0 n0 d0,.slice A1 n1 d1,.slice A2 X.length d2]] w' fun e w''=>e=.returned (.int .i64 0)∧Below w'.heap.size w' w''
 hp:shPr.In w A1 n1 P
 hn1:n1≤9223372036854775806
 hx:shX.In w A2 X.length X
 hX:X.length≤64
 hW:WOk P X
 hph:∀ x ∈ X,1≤x.ph∧x.ph≤3
theorem Right59.below {P:List PC} (h:Right59 w A0 n0 d0 A1 n1 d1 A2 d2 P X) (hb:Below w.heap.size w w'):Right59 w' A0 n0 d0 A1 n1 d1 A2 d2 P X :=
 ⟨fun w2 h2=>h.ck w2 (ht_ hb h2),h.hp.below hb,h.hn1,h.hx.below hb,h.hX,h.hW,h.hph⟩
theorem q0nq {H:List Hd} {L:List (List PT)} {PL:List (PC × List Fea)} (hg:RG.Is w ⟨A0,n0,d0,A1,n1,d1,A2,X.length,d2⟩ H L PL X) (h:rg59 L PL X=true):Right59 w A0 n0 d0 A1 n1 d1 A2 d2 (PL.map Prod.fst) X:=by
 unfold rg59 at h;rw [Bool.and_eq_true,decide_eq_true_eq] at h;obtain ⟨hfr,hu⟩:=h;obtain ⟨⟨hl0,hm,hn0⟩,⟨hp,hpo,hnd1,hd1⟩,hx,⟨hnd2,hd2⟩,hcb⟩:=hg;dsimp only at hl0 hn0 hp hnd1 hd1 hx hnd2 hd2;have hn1l:n1=PL.length:=by have:=hp.1.1;simpa using this
 have hfw:=q7x hfr;have hn1:n1≤9223372036854775806:=by have:=hfw.1;omega
 have hpf:=hp.few hfr;obtain ⟨h1,h2,h3⟩:=q0kq hu;refine ⟨fun w' hb=>?_,hpf.1,hn1,hx,h2,h1,h3⟩
 rw [← hu];exact qtm A0 n0 d0 H L A1 n1 d1 PL A2 X.length d2 X w' (hl0.below hb) hm (hpf.below hb) hn1 (hx.below hb) hnd2 hd2 hcb
end Go.Proofs.YtabhjdmmfdfpeaaGreatDoor
