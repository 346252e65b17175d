/- Lemmas. -/
import Derived.Test.YtabhjdmmfdfpeaaGreatDoorQPwA
namespace Go.Proofs.YtabhjdmmfdfpeaaGreatDoor
set_option maxHeartbeats 32000000
set_option maxRecDepth 100000
open _root_.Go.Proofs.Tryz
open Go.RowKit
variable {L:List (List PT)} {PL:List (PC × List Fea)} {X:List Fx} {P:List PC} {vals:List Value} {base z:Nat} {tS te:TypeId} {ov v:Value} {w:World}
theorem q0fc (p:PC) (X:Nat) (s:ByteArray) (w:World) (hX:X<w.heap.size) (cx:w.cell? ⟨X,2,none⟩=some (.string s)) :
  Rt 64 #[p.val,.pointer (some ⟨X,0,none⟩)] w (.bool (decide (p.s=s))):=by
 obtain ⟨ps,pf,pw,pA,pn,pc⟩:=p;show Rt 64 #[.agg #[.string ps,.int .i64 pf,.int .i64 pw,.slice pA pn pc],.pointer (some ⟨X,0,none⟩)] w (.bool (decide (ps=s)))
 have hbq:=q1w ps s;obtain ⟨W,HW,HB0,HK⟩:=bx4 w (.string ps) (.int .i64 pf) (.int .i64 pw) (.slice pA pn pc) 87;have hB:=Below.refl W.heap.size W;obtain ⟨c0,c1,c2,c3⟩:=HK.out W hB;have d0:=(HB0.out.cell (p:=⟨X,2,none⟩) hX).trans cx;generalize decide (ps=s)=q at *
 go_enter func64,ntmps64
 go_wp2_with fail;rw [← HW.out];go_wp2_with fail;go_ret;exact ⟨rfl,HB0.out⟩
theorem q0fd (A0:Option Addr) (n0 d0:Nat) (A1:Option Addr) (n1 d1:Nat) (A2:Option Addr) (n2 d2:Nat) (P:List PC) (x:Fx) (p:PC) (w:World) (hp:shPr.In w A1 n1 P) (hn:n1≤9223372036854775806) (hx:pcF P x.pr=some p) :
  Calls prog 32 #[.agg #[.slice A0 n0 d0,.slice A1 n1 d1,.slice A2 n2 d2],x.val] w fun e w'=>e=.returned p.val∧Below w.heap.size w w':=by
 obtain ⟨rfl,_⟩:=id hp;have hnn:¬ pcI P x.pr<0:=fun h=>by rw [qgv.1 h] at hx;cases hx
 have hat:=pcI_at hnn;rw [hx] at hat;have hge:=pcI_ge P x.pr;have hlt:=pcI_lt P x.pr;obtain ⟨k,hk⟩:∃ k:Nat,pcI P x.pr=k:=⟨(pcI P x.pr).toNat,o_⟩
 have hkl:k<P.length:=o_
 rw [hk,show ((k:Int).toNat)=k by omega,qa1 hkl] at hat
 injection hat with hat
 obtain ⟨ch,pt,pr,un,ad,ph,cb⟩:=x;dsimp only at hk;show Calls prog 32 #[.agg #[.slice A0 n0 d0,.slice A1 P.length d1,.slice A2 n2 d2],.agg #[.int .i64 ch,.int .i64 pt,.string pr,.int .i64 un,.int .i64 ad,.int .i64 ph,.string cb]] w fun e w'=>e=.returned p.val∧Below w.heap.size w w'
 obtain ⟨W,HW,HB0,HK⟩:=bx3_7_4 w (.slice A0 n0 d0) (.slice A1 P.length d1) (.slice A2 n2 d2) 75 (.int .i64 ch) (.int .i64 pt) (.string pr) (.int .i64 un) (.int .i64 ad) (.int .i64 ph) (.string cb) 45 (.string ⟨#[]⟩) (.int .i64 0) (.int .i64 0) (.slice none 0 0) 87;have hB:=Below.refl W.heap.size W;obtain ⟨c0,c1,c2,c3,c4,c5,c6,c7,c8,c9,c10,c11,c12,c13⟩:=HK.out W hB;have hsz:w.heap.size+1<W.heap.size:=by rw [HW.out];simp
 have hsz2:w.heap.size+1+1<W.heap.size:=by rw [HW.out];simp
 have HIx:=hj_ (fun wk (hB:Below W.heap.size W wk) (hl:shPr.In wk A1 P.length P)=>(show Rt 63 #[.slice A1 P.length d1,.func (.func 64) #[] #[.pointer (some ⟨w.heap.size+1,0,none⟩)]] wk (.int .i64 (k:Int)) from by
  rw [← hk];exact qbq 64 #[.pointer (some ⟨w.heap.size+1,0,none⟩)] (fun p=>decide (p.s=pr)) A1 P.length d1 P wk (enters_of func64 k_ rfl) hl o_
   (fun i h W' hW'=>q0fc P[i] _ pr W' (by have:=hB.size;have:=hW'.size;omega) (HK.out W' (ht_ hB hW')).2.2.2.2.2.1)))
 have HP:=hj_ (hp.below HB0.out);have hfr:∀ w',Below W.heap.size W w'→w'.frozen? ⟨w.heap.size+1+1,0,none⟩=false∧w'.frozen? ⟨w.heap.size+1+1,1,none⟩=false∧w'.frozen? ⟨w.heap.size+1+1,2,none⟩=false∧w'.frozen? ⟨w.heap.size+1+1,3,none⟩=false:=fun w' h=>by
  have key:∀ j,w'.frozen? ⟨w.heap.size+1+1,j,none⟩=false:=fun j=>by
   refine (h.frozen (p:=⟨w.heap.size+1+1,j,none⟩) hsz2).trans ?_;rw [HW.out];exact World.frozen?_alloc_at _ _ _ _ s_
  exact ⟨key 0,key 1,key 2,key 3⟩
 have HFr:=hj_ hfr;have hmf:∀ (fn:Fn) (first cap:Array Value) (w:World),(Instr.makeFunc fn first cap).run prog w=.ok (.func fn first cap) w:=fun _ _ _ _=>rfl
 clear hp hnn hge hlt hk hx hsz hsz2 hfr;obtain ⟨b,o,rfl,hbl,hcell⟩:=pc_at HP.out o_
 have HC:=hj_ (fun (w':World) (h:Below W.heap.size W w')=>And.intro ((h.cell (p:=⟨b,o+k*4,none⟩) hbl).trans (hcell k hkl).1) (And.intro ((h.cell (p:=⟨b,o+k*4+1,none⟩) hbl).trans (hcell k hkl).2.1) (And.intro ((h.cell (p:=⟨b,o+k*4+2,none⟩) hbl).trans (hcell k hkl).2.2.1) ((h.cell (p:=⟨b,o+k*4+3,none⟩) hbl).trans (hcell k hkl).2.2.2))))
 have i0:(0:Int)≤(k:Int):=o_
 have i1:(k:Int)<(P.length:Int):=o_
 clear hcell;rw [← hat] at HC;clear hat;obtain ⟨ps,pf,pw,pA,pn,pc⟩:=p;dsimp only at HC
 go_enter func32,ntmps32
 go_wp2_with fail;rw [← HW.out];go_wp2_with fail;refine (HIx.out _ hB HP.out).mono ?_;rintro e wk ⟨rfl,hb⟩;have hBk:=ht_ hB hb;clear hb c0 c1 c2 c3 c4 c5 c6 c7 c8 c9 c10 c11 c12 c13;obtain ⟨c0,c1,c2,c3,c4,c5,c6,c7,c8,c9,c10,c11,c12,c13⟩:=HK.out _ hBk;obtain ⟨f0,f1,f2,f3⟩:=HFr.out _ hBk;obtain ⟨q0,q1,q2,q3⟩:=HC.out _ hBk;have hbw:=Nat.lt_of_lt_of_le hbl hBk.size;have hz:=ht_ HB0.out hBk;go_wp2_with fail
 (try simp only [Exit.inBlock,Exit.then])
 refine bodyPost_ret (v:=.agg #[.string ps,.int .i64 pf,.int .i64 pw,.slice pA pn pc]) ?_ rfl ⟨rfl,?_⟩
 ·rw [qlt rfl]
  go_simp
 ·(repeat' first | exact br_ | assumption | apply Below.drew | apply q18 | refine Below.alloc ?_ ?_ _ | refine Below.setCell ?_ ?_ _ | refine Below.trans ?_ (Below.mono ‹_› ?_) | omega | (simp;omega) | simp)
abbrev uKv:ByteArray × Int→Value:=fun p=>.agg #[.string p.1,.int .i64 p.2]
theorem ba_beq (x y:ByteArray):(x == y)=decide (x=y):=by
 obtain ⟨a⟩:=x;obtain ⟨b⟩:=y;show (a == b)=_
 by_cases h:a=b
 ·subst h;simp
 ·simp [h]
theorem eq_str (d:Nat) (x y:ByteArray) (w:World):(Op.equalIn (d+1) 9 (.string x) (.string y)).run prog w=.ok (decide (x=y)) w:=by
 have hs:=underlying9;simp only [Op.equalIn,Sem.run_bind,run_underlying hs,Result.andThen,ba_beq]
 rfl
theorem q0eo (a b:ByteArray × Int) (w:World):(Op.equal 82 (uKv a) (uKv b)).run prog w=.ok (decide (a=b)) w:=by
 obtain ⟨a1,a2⟩:=a;obtain ⟨b1,b2⟩:=b;have hf : (prog.fieldsOf 82).toList.map (fun f => (f.name, f.type, f.offset)) = [("cable", 9, 0), ("at", 3, 1)] := k_
 have hs:prog.stoodInHeld 82=false:=k_
 have p0:∀ (x:ByteArray) (y:Int) w,(part 9 #[.string x,.int .i64 y] 0).run prog w=.ok (.string x) w:=fun x y w=>k_
 have p1:∀ (x:ByteArray) (y:Int) w,(part 3 #[.string x,.int .i64 y] 1).run prog w=.ok (.int .i64 y) w:=fun x y w=>k_
 have hi:=underlying3;show (Op.equalIn (9999+1) 82 (.agg #[.string a1,.int .i64 a2]) (.agg #[.string b1,.int .i64 b2])).run prog w=_
 rw [run_equalIn_struct w 9999 _ _ _ k_ hs]
 have e:∀ (d:Nat) (x y:Int) w,(Op.equalIn (d+1) 3 (.int .i64 x) (.int .i64 y)).run prog w=.ok (x == y) w:=fun d x y w=>by
  simp [Op.equalIn,run_underlying hi]
 have e9:∀ (x y:Int) w,(Op.equalIn 9999 3 (.int .i64 x) (.int .i64 y)).run prog w=.ok (x == y) w:=fun x y w=>e 9998 x y w
 have e8:∀ (x y:ByteArray) w,(Op.equalIn 9999 9 (.string x) (.string y)).run prog w=.ok (decide (x=y)) w:=fun x y w=>eq_str 9998 x y w
 generalize (prog.fieldsOf 82).toList=fs at *;generalize hd:9999=d at *
 match fs,hf with
 | [],hf=>simp at hf
 | [_],hf=>simp at hf
 | _ :: _ :: _ :: _,hf=>simp at hf
 | [f,g],hf =>
  simp only [List.map_cons,List.map_nil,List.cons.injEq,Prod.mk.injEq,and_true] at hf;obtain ⟨⟨f1,f2,f3⟩,g1,g2,g3⟩:=hf;clear e hd hi hs
  by_cases h1:a1=b1
  ·subst h1
   by_cases h2:a2=b2
   ·subst h2
    simp [Op.eqFields,f1,f2,f3,g1,g2,g3,Sem.run_bind,p0,p1,e9,e8,Result.andThen]
   ·simp [Op.eqFields,f1,f2,f3,g1,g2,g3,Sem.run_bind,p0,p1,e9,e8,Result.andThen,h2]
  ·simp [Op.eqFields,f1,f2,f3,Sem.run_bind,p0,e8,Result.andThen,h1]
theorem kUnit:KeyTy prog 82 uKv:=KeyTy.of_eq (by rw [underlying82]) (fun a e w=>k_) q0eo
theorem infoSN:(prog.info? 78).map (fun i=>(i.zero,i.size,i.bytes))=some (some (.slice none 0 0),1,24):=k_
theorem infoNN:(prog.info? 3).map (fun i=>(i.zero,i.size,i.bytes))=some (some (.int .i64 0),1,8):=k_
def encN (l:List Nat):List Value:=l.map fun i:Nat=>Value.int .i64 (i:Int)
theorem q0em (l:List Nat) (i:Nat):encN l ++ [.int .i64 (i:Int)]=encN (l ++ [i]):=by unfold encN;simp
theorem sl_one (A:Option Addr) (n c:Nat):∀ u ∈ [Value.slice A n c],u.oneCell' = true:=by simp;rfl
theorem q0er (g:Nat) (cb:Array Value) (key:Nat→ByteArray × Int) (A:Option Addr) (n c:Nat) (l:List Nat) (w:World) (eg:∀ args w,(callFunc g args).run prog w=.ok (.enter g args) w) (hl:Is w A n (l.map fun i:Nat=>(i:Int))) (hn:n≤1000)
  (hf:∀ i (h:i<l.length) (W:World),Below w.heap.size w W→Calls prog g (#[.int .i64 (i:Int),.int .i64 (l[i]:Int)] ++ cb) W fun e w'=>e=.returned (uKv (key l[i]))∧Below W.heap.size W w') :
  Calls prog 28 #[.slice A n c,.func (.func g) #[] cb] w fun e w'=>∃ ov vals,e=.returned ov∧Grps w' w.heap.size 3 78 1 encN ov vals (gsV key l)∧Below w.heap.size w w':=by
 obtain rfl:n=l.length:=hl.1.trans (List.length_map ..);have HL:=hj_ hl;have HF:=hj_ hf;have HN:=hj_ hn;have hmm:∀ w,(Instr.makeMap 120 none).run prog w=.ok (.map (some w.heap.size)) (w.alloc (.map #[] 0)):=fun w=>run_makeMap _ w
 obtain ⟨W5,hW5⟩:=ex_ (w.alloc (.map #[] 0));have HB5:=hj_ (show Below w.heap.size w W5 by rw [hW5];exact (br_).alloc lr_ _)
 have HM5:=hj_ (show MapAt uKv W5 w.heap.size (plL (ksV key (l.take 0))) by rw [hW5];exact MapAt.made uKv w)
 have HW5:=hj_ hW5;clear hW5 hl hf hn
 go_enter func28,ntmps28
 go_wp2_with fail;rw [← HW5.out];clear hmm
 go_loopw [6,15] (fun ov iv wr=>∃ (k:Nat) (vals:List Value),k≤l.length∧iv=.int .i64 k∧Below w.heap.size w wr∧MapAt uKv wr w.heap.size (plL (ksV key (l.take k)))∧Grps wr (w.heap.size+1) 3 78 1 encN ov vals (gsV key (l.take k))) (fun _ iv _=>l.length-(intOf iv).toNat)
 case atStart=>exact ⟨0,[],Nat.zero_le _,rfl,HB5.out,HM5.out,Grps.nil _⟩
 case round =>
  obtain ⟨k,vals,hk,rfl,hB,hM,hG⟩:=hrel;generalize u6=ov at *;have HBr:=hj_ hB;have HM:=hj_ hM;have HG:=hj_ hG
  by_cases hlt:k<l.length
  ·obtain ⟨b,o,rfl,hbl,hcell⟩:=HL.out.at1 (k:=k) (by rw [List.length_map];exact hlt)
   rw [List.getElem_map] at hcell;have p0:=(hB.cell (p:=⟨b,o+k,none⟩) hbl).trans hcell;have hbw:b<wr.heap.size:=Nat.lt_of_lt_of_le hbl hB.size;have hc:=HF.out k hlt wr hB;have i0:(0:Int)≤(k:Int):=o_
   have i1:(k:Int)<(l.length:Int):=o_
   have w0:IntKind.i64.wrap ((k:Int)+1)=(k:Int)+1:=IntWalk.i64_in _ (oh_ HN.out)
   have HOld:=hj_ (fun j (hj:j<(ksV key (l.take k)).length) (h:(ksV key (l.take k))[j]=key l[k])=>q0eu (key:=key) (l:=l.take k) (x:=l[k]) (j:=j) hj h)
   have HNew:=hj_ (fun (h:key l[k] ∉ ksV key (l.take k))=>q0et (key:=key) (l:=l.take k) (x:=l[k]) h)
   have hLe:=fun j (hj:j<(gsV key (l.take k)).length)=>gsV_le key (l.take k) _ (List.getElem_mem hj)
   have hLe2:(gsV key (l.take k)).length≤1000:=by rw [q0es];have:=ksV_le key (l.take k);have:=HN.out;rw [List.length_take] at *;omega
   have hLe3:∀ j (hj:j<(gsV key (l.take k)).length),(gsV key (l.take k))[j].length≤1000:=fun j hj=>by have:=hLe j hj;have:=HN.out;rw [List.length_take] at *;omega
   have hgk:=q0es key (l.take k);rw [← List.take_succ_eq_append_getElem hlt] at HOld HNew;have HLt:=hj_ hlt;clear hcell hLe hM hG;generalize gsV key (l.take k)=gs at *;generalize ksV key (l.take k)=ks at *;generalize l[k]=x at *;generalize key x=kx at *;obtain ⟨ka,ki⟩:=kx;have hc2:Calls prog g (#[.int .i64 (k:Int),.int .i64 (x:Int)] ++ cb) wr fun e w'=>e=.returned (.agg #[.string ka,.int .i64 ki])∧Below wr.heap.size wr w':=hc
   have HLe3:=hj_ hLe3;clear hc hLe3
   by_cases hm:(ka,ki) ∈ ks
   ·obtain ⟨j,hj,hjk,hlook⟩:=q0fo hm
    obtain ⟨hk1,hg1⟩:=HOld.out j hj hjk;have hGj:j<gs.length:=o_
    have HLV:=hj_ (show lookV true (plL ks) (ka,ki) (.int .i64 0)=.tuple #[.int .i64 (j:Int),.bool true] by
     unfold lookV;rw [if_pos rfl,hlook];rfl)
    obtain ⟨og,oc,rfl,hog,hogl⟩:=HG.out.out.form o_
    obtain ⟨v,hv,hrow⟩:=HG.out.row j hGj;have i2:(0:Int)≤(j:Int):=o_
    have i3:(j:Int)<(gs.length:Int):=o_
    have HRow:=hj_ hrow;have hgj:=HLe3.out j hGj;rw [List.getD_eq_getElem?_getD,List.getElem?_eq_getElem hGj,Option.getD_some] at hg1;have HK1:=hj_ hk1;have HG1:=hj_ hg1;have HV:=hj_ hv;have hwb:w.heap.size+1≤wr.heap.size:=by have:=HM.out.lt;omega
    clear HOld HNew hm hj hjk hlook hrow hk1 hg1 hgk hv;have HAft:=hj_ (show ∀ w2,Below wr.heap.size wr w2→(w2.alloc (.cells #[.string ka,.int .i64 ki] 82)).cell? ⟨w2.heap.size,0,none⟩=some (.string ka)∧(w2.alloc (.cells #[.string ka,.int .i64 ki] 82)).cell? ⟨w2.heap.size,1,none⟩=some (.int .i64 ki)∧(w2.alloc (.cells #[.string ka,.int .i64 ki] 82)).cell? ⟨og,j,none⟩=some v∧og<w2.heap.size+1∧w.heap.size+1≤w2.heap.size+1∧Hid (MapAt uKv (w2.alloc (.cells #[.string ka,.int .i64 ki] 82)) w.heap.size (plL ks))∧Hid (Grps (w2.alloc (.cells #[.string ka,.int .i64 ki] 82)) (w.heap.size+1) 3 78 1 encN (.slice (some ⟨og,0,none⟩) gs.length oc) vals gs)∧Hid ((w2.alloc (.cells #[.string ka,.int .i64 ki] 82)).ownsRow (w.heap.size+1) 3 1 v gs[j].length (encN gs[j]))∧Hid (Below w.heap.size w (w2.alloc (.cells #[.string ka,.int .i64 ki] 82))) from fun w2 hb=>by
     have hb1:Below wr.heap.size wr (w2.alloc (.cells #[.string ka,.int .i64 ki] 82)):=hb.alloc hb.size _;have hX1:=Cells.fresh w2 [.string ka,.int .i64 ki] 82;have hG1:=HG.out.kept hb1;have hsz:=hb.size;exact ⟨hX1.at_ (j:=0) rfl,hX1.at_ (j:=1) rfl,(hG1.out.cellAt j o_).trans HV.out,o_,o_,hj_ (HM.out.below hb1),hj_ hG1,hj_ (q0g2 HRow.out fun q hq=>hb1.block q (q0g1 HRow.out hq).2.1),hj_ (ht_ hB hb1)⟩)
    clear hB;go_wp2_with (first | (go_at_fn g;refine hc2.mono ?_;rintro e w2 ⟨rfl,hb⟩;obtain ⟨x0,x1,d0,hogl1,hs1,HM1,HG1b,HRow1,HB1⟩:=HAft.out w2 hb;clear hb) | (at_lookup;refine q002 _ rfl _ _ _ _ rfl _ _ underlying120 uKv kUnit w.heap.size (plL ks) (ka,ki) rfl rfl HM1.out (.int .i64 0) s_ ?_;rw [HLV.out]) | (at_builtin;refine q0j0 rfl _ _ _ rfl (w.heap.size+1) 3 _ 1 8 underlying78 infoNN rfl o_ _ gs[j].length (encN gs[j]) rfl HRow1.out [.int .i64 (x:Int)] 3 _ _ rfl (by first | rfl | simp) rfl (qf9 _) (by unfold maxLen;omega) o_ (by simpa using hs1) ?_;intro g4 c4 w4 hown4 hg4 hx4;have hko:=q0g2 HG1b.out.out (fun q hq=>hg4.block q (by have:=(q0g1 HG1b.out.out hq).2.1;exact this) (fun e=>HG1b.out.off j v q HV.out e.symm hq));have fz4:=hko.frozenAt j;have cl4:=(hko.cellAt j o_).trans HV.out;have hogl4:og<w4.heap.size:=Nat.lt_of_lt_of_le (by simpa using hogl1) hg4.size))
    have HP4:=hj_ (HG1b.out.push j hGj HV.out x (by rw [q0em] at hown4;exact hown4) hg4 hx4)
    have HB4:=hj_ ((HB1.out.grown hg4 HB1.out.size (fun q e=>by have:=(q0g1 HRow1.out e).1;omega)).setCell (p:=⟨og,j,none⟩) (by show w.heap.size≤og;omega) (.slice (some ⟨g4,0,none⟩) (gs[j].length+1) c4))
    have HM4:=hj_ ((HM1.out.grown hg4 (fun e=>by have:=(q0g1 HRow1.out e.symm).1;omega)).far j (.slice (some ⟨g4,0,none⟩) (gs[j].length+1) c4) (B:=og) o_)
    clear hown4 hg4 hx4 hko fz4 cl4
    go_roundw
    case rel=>exact ⟨k+1,_,HLt.out,by go_num,HB4.out,by rw [HK1.out];exact HM4.out,by rw [HG1.out];exact HP4.out⟩
    case measure=>have:=HLt.out;simp [intOf];omega
   ·obtain ⟨hk1,hg1⟩:=HNew.out hm
    have HLV:=hj_ (show lookV true (plL ks) (ka,ki) (.int .i64 0)=.tuple #[.int .i64 0,.bool false] by
     unfold lookV;rw [if_pos rfl,q03g hm];rfl)
    have HLN:=hj_ (q03g hm);have HK1:=hj_ hk1;have HG1:=hj_ hg1;have HPL:=hj_ (q0ga ks (ka,ki));rw [← hgk] at HPL;have hwb:w.heap.size+1≤wr.heap.size:=by have:=HM.out.lt;omega
    have hpl:plL ks ++ [((ka,ki),.int .i64 (gs.length:Int))]=plL (ks ++ [(ka,ki)]):=HPL.out;clear HOld HNew hm hk1 hg1 hgk hpl;obtain ⟨oA,oc,rfl⟩:=qfu HG.out.out;have i4:(0:Int)≤(gs.length:Int):=o_
    have i5:(gs.length:Int)<(gs.length:Int)+1:=o_
    have HAft:=hj_ (show ∀ w2,Below wr.heap.size wr w2→(w2.alloc (.cells #[.string ka,.int .i64 ki] 82)).cell? ⟨w2.heap.size,0,none⟩=some (.string ka)∧(w2.alloc (.cells #[.string ka,.int .i64 ki] 82)).cell? ⟨w2.heap.size,1,none⟩=some (.int .i64 ki)∧w.heap.size+1≤w2.heap.size+1∧Hid (MapAt uKv (w2.alloc (.cells #[.string ka,.int .i64 ki] 82)) w.heap.size (plL ks))∧Hid (Grps (w2.alloc (.cells #[.string ka,.int .i64 ki] 82)) (w.heap.size+1) 3 78 1 encN (.slice oA gs.length oc) vals gs)∧Hid (Below w.heap.size w (w2.alloc (.cells #[.string ka,.int .i64 ki] 82))) from fun w2 hb=>by
     have hb1:Below wr.heap.size wr (w2.alloc (.cells #[.string ka,.int .i64 ki] 82)):=hb.alloc hb.size _;have hX1:=Cells.fresh w2 [.string ka,.int .i64 ki] 82;have hsz:=hb.size;exact ⟨hX1.at_ (j:=0) rfl,hX1.at_ (j:=1) rfl,o_,hj_ (HM.out.below hb1),hj_ (HG.out.kept hb1),hj_ (ht_ hB hb1)⟩)
    clear hB;go_wp2_with (first | (go_at_fn g;refine hc2.mono ?_;rintro e w2 ⟨rfl,hb⟩;obtain ⟨x0,x1,hs1,HM1,HG1b,HB1⟩:=HAft.out w2 hb;clear hb) | (at_lookup;refine q002 _ rfl _ _ _ _ rfl _ _ underlying120 uKv kUnit w.heap.size (plL ks) (ka,ki) rfl rfl HM1.out (.int .i64 0) s_ ?_;rw [HLV.out]) | (at_mapUpdate;refine q004 _ rfl _ _ _ _ rfl _ _ underlying120 uKv kUnit w.heap.size (plL ks) (ka,ki) (.int .i64 (gs.length:Int)) rfl rfl rfl HM1.out HLN.out ?_;intro w5 hm5 hg5;rw [HPL.out] at hm5;have HM5:=hj_ hm5;have HG5:=hj_ (HG1b.out.grown hg5 (Nat.lt_succ_self _));have HB5:=hj_ (HB1.out.grown hg5 HB1.out.size (fun q e=>by cases e;exact Nat.le_refl _));have hs5:w.heap.size+1≤w5.heap.size:=Nat.le_trans (by simpa using hs1) hg5.size;clear hm5 hg5) | (at_builtin;refine q0j0 rfl _ _ _ rfl (w.heap.size+1) 78 _ 1 24 underlying79 infoSN rfl o_ _ gs.length vals rfl HG5.out.out [.slice none 0 0] 78 _ _ rfl (by first | rfl | simp) rfl (sl_one _ _ _) (by unfold maxLen;omega) o_ hs5 ?_;intro g6 c6 w6 hown6 hg6 hx6;have HG6:=hj_ (HG5.out.new (g:=g6) (c:=c6) rfl hown6 hg6 hx6);have HB6:=hj_ (HB5.out.grown hg6 HB5.out.size (fun q e=>by have:=(q0g1 HG5.out.out e).1;omega));have HM6:=hj_ (HM5.out.grown hg6 (fun e=>by have:=(q0g1 HG5.out.out e.symm).1;omega));have hs6:w.heap.size+1≤w6.heap.size:=Nat.le_trans hs5 hg6.size;have hvl:=HG5.out.len;have d6:w6.cell? ⟨g6,gs.length,none⟩=some (.slice none 0 0):=(hown6.cellAt gs.length o_).trans (by rw [← hvl];simp);have hgl6:=(q0g1 hown6 (b:=g6) rfl).2.1;have HO6:=hj_ hown6;clear hown6 hg6 hx6) | (at_builtin;refine q0j0 rfl _ _ _ rfl (w.heap.size+1) 3 _ 1 8 underlying78 infoNN rfl o_ _ 0 [] rfl (World.ownsRow_nil _ _ _ _) [.int .i64 (x:Int)] 3 _ _ rfl (by first | rfl | simp) rfl (qf9 _) (by unfold maxLen;omega) o_ hs6 ?_;intro g7 c7 w7 hown7 hg7 hx7;have hko:=q0g2 HO6.out (fun q hq=>hg7.block q (q0g1 HO6.out hq).2.1 (fun e=>by have e:some q=none:=e;cases e));have fz7:=hko.frozenAt gs.length;have cl7:=(hko.cellAt gs.length o_).trans (show (vals ++ [Value.slice none 0 0])[gs.length]? = some (.slice none 0 0) by rw [← hvl];simp);have hogl7:g6<w7.heap.size:=Nat.lt_of_lt_of_le hgl6 hg7.size))
    obtain ⟨gs6,hgs6⟩:=ex_ (gs ++ [[]]);have hl6:gs6.length=gs.length+1:=by rw [hgs6];simp
    have hat:gs6[gs.length]'o_=[]:=by simp [hgs6]
    have hG6:=HG6.out;rw [← hgs6,← hl6] at hG6;have hP:=hG6.push gs.length o_ (v:=.slice none 0 0) (by rw [← hvl];simp) x (g:=g7) (c:=c7) (w1:=w7) (by rw [hat];exact hown7) hg7 hx7
    rw [hat,hl6,show gs6.set gs.length ([] ++ [x])=gs ++ [[x]] by rw [hgs6];simp] at hP
    have HP4:=hj_ hP;have HB4:=hj_ ((HB6.out.grown hg7 HB6.out.size (fun q e=>by have e:none=some q:=e;cases e)).setCell (p:=⟨g6,gs.length,none⟩) (by show w.heap.size≤g6;have:=(q0g1 HG6.out.out (b:=g6) rfl).1;omega) (.slice (some ⟨g7,0,none⟩) (0+1) c7))
    have HM4:=hj_ ((HM6.out.grown hg7 (fun e=>by have e:some w.heap.size=none:=e;cases e)).far gs.length (.slice (some ⟨g7,0,none⟩) (0+1) c7) (B:=g6) (by have:=(q0g1 HG6.out.out (b:=g6) rfl).1;omega))
    clear hown7 hg7 hx7 hko fz7 cl7 hG6 hP hat hgs6 hl6
    go_roundw
    case rel=>exact ⟨k+1,_,HLt.out,by go_num,HB4.out,by rw [HK1.out];exact HM4.out,by rw [HG1.out];exact HP4.out⟩
    case measure=>have:=HLt.out;simp [intOf];omega
  ·obtain rfl:k=l.length:=by omega
   rw [List.take_length] at HG;clear hB hM hG;go_wp2_with fail;go_ret;exact ⟨_,vals,rfl,HG.out.weak (Nat.le_succ _),HBr.out⟩
def WOk (P:List PC) (X:List Fx):Prop:=∀ x ∈ X,∃ p,pcF P x.pr=some p∧0≤p.wa∧p.wa≤1048576
theorem q0iz {x:Fx} {p:PC} (h:pcF P x.pr=some p):wattV P x=p.wa:=by unfold wattV;rw [h]
theorem q0iy (h:WOk P X) (i:Nat) (hi:i<X.length):0≤wattV P (X.getD i fx0)∧wattV P (X.getD i fx0)≤1048576:=by
 have e:X.getD i fx0=X[i]:=by rw [List.getD_eq_getElem?_getD,List.getElem?_eq_getElem hi,Option.getD_some]
 rw [e];obtain ⟨p,hp,h0,h1⟩:=h _ (List.getElem_mem hi);rw [q0iz hp];exact ⟨h0,h1⟩
def wN (P:List PC) (X:List Fx) (i:Nat):Int:=wattV P (X.getD i fx0)
theorem q0ib (W:Nat→Int) (l:List Nat) (i:Nat):uW W (l ++ [i])=uW W l+W i:=by unfold uW;rw [List.foldl_append];rfl
theorem uW_bd {W:Nat→Int} {B:Int} (_:0≤B):∀ {l:List Nat},(∀ i ∈ l,0≤W i∧W i≤B)→0≤uW W l∧uW W l≤l.length*B:=by
 intro l;refine q0hd (m:=fun l=>(∀ i ∈ l,0≤W i∧W i≤B)→0≤uW W l∧uW W l≤l.length*B) ?_ ?_ l
 ·intro _;exact ⟨Int.le_refl _,by simp [uW]⟩
 ·intro l i ih h
  have h1:=ih (fun j hj=>h j (by simp [hj]))
  have h2:=h i s_
  rw [q0ib,List.length_append,show (([i]:List Nat).length)=1 from rfl,Int.natCast_add,Int.add_mul]
  simp only [Int.natCast_one,Int.one_mul];omega
theorem q0ex (G i:Nat) (A0:Option Addr) (n0 d0:Nat) (A1:Option Addr) (n1 d1:Nat) (A2:Option Addr) (n2 d2:Nat) (X:List Fx) (w:World) (hG:Cells w G [.slice A0 n0 d0,.slice A1 n1 d1,.slice A2 n2 d2]) (hx:shX.In w A2 n2 X) (hi:i<X.length) :
  Rt 29 #[.int .i64 (i:Int),.int .i64 (i:Int),.pointer (some ⟨G,0,none⟩)] w (uKv (uKey X i)):=by
 obtain rfl:n2=X.length:=hx.1;obtain ⟨b,o,rfl,hbl,hcell⟩:=fx_at hx o_
 have k6:=(hcell i hi).2.2.2.2.2.2;have hcb:cbV X i=X[i].cb:=by unfold cbV;rw [List.getD_eq_getElem?_getD,List.getElem?_eq_getElem hi,Option.getD_some]
 have hkey:uKey X i=if X[i].cb=⟨#[]⟩ then (⟨#[]⟩,(i:Int)) else (X[i].cb,-1):=by unfold uKey;rw [hcb]
 rw [hkey];have hg2:=hG.at_ (j:=2) rfl
 have hGl:=hG.1;have hbq:=q1w X[i].cb ⟨#[]⟩;obtain ⟨W,HW,HB0,HK⟩:=bx2 w (.string ⟨#[]⟩) (.int .i64 0) 82;have hB:=Below.refl W.heap.size W;obtain ⟨c0,c1⟩:=HK.out W hB;have d0:=(HB0.out.cell (p:=⟨G,2,none⟩) hGl).trans hg2;have d1:=(HB0.out.cell (p:=⟨b,o+i*7+6,none⟩) hbl).trans k6;have hbW:b<W.heap.size:=Nat.lt_of_lt_of_le hbl HB0.out.size;have hGW:G<W.heap.size:=Nat.lt_of_lt_of_le hGl HB0.out.size;have i0:(0:Int)≤(i:Int):=o_
 have i1:(i:Int)<(X.length:Int):=o_
 have hsz:w.heap.size<W.heap.size:=by rw [HW.out];simp
 have key:∀ j,W.frozen? ⟨w.heap.size,j,none⟩=false:=fun j=>by
  rw [HW.out];exact World.frozen?_alloc_at _ _ _ _ s_
 have f0:=key 0;have f1:=key 1;clear hcb hkey hcell k6 hg2 hG hx key;generalize X[i].cb=cb at *;have eW:=HW.out;clear HW HK hB;subst eW;rw [World.size_alloc] at hbW hGW hsz
 by_cases hc:cb=⟨#[]⟩
 ·rw [if_pos hc]
  subst hc;rw [decide_eq_true rfl] at hbq;clear hbq
  go_enter func29,ntmps29
  go_wp2_with fail
  (try simp only [Exit.inBlock,Exit.then])
  refine bodyPost_ret (v:=.agg #[.string ⟨#[]⟩,.int .i64 (i:Int)]) ?_ rfl ⟨rfl,?_⟩
  ·rw [qlt rfl]
   go_simp
  ·have hz:=HB0.out
   (repeat' first | exact br_ | assumption | apply Below.drew | apply q18 | refine Below.alloc ?_ ?_ _ | refine Below.setCell ?_ ?_ _ | refine Below.trans ?_ (Below.mono ‹_› ?_) | omega | (simp;omega) | simp)
 ·rw [if_neg hc]
  rw [decide_eq_false hc] at hbq;have hce:cb.toList.isEmpty=false:=by
   rw [ByteArray.toList_eq]
   cases h:cb.data.toList with
   | nil=>exact absurd (ByteArray.ext (Array.ext' h)) hc
   | cons a l=>rfl
  go_enter func29,ntmps29
  go_wp2_with fail
  (try simp only [Exit.inBlock,Exit.then])
  refine bodyPost_ret (v:=.agg #[.string cb,.int .i64 (-1)]) ?_ rfl ⟨rfl,?_⟩
  ·rw [qlt rfl]
   go_simp
  ·have hz:=HB0.out
   (repeat' first | exact br_ | assumption | apply Below.drew | apply q18 | refine Below.alloc ?_ ?_ _ | refine Below.setCell ?_ ?_ _ | refine Below.trans ?_ (Below.mono ‹_› ?_) | omega | (simp;omega) | simp)
theorem q0fe (H G:Nat) (A0:Option Addr) (n0 d0:Nat) (A1:Option Addr) (n1 d1:Nat) (A2:Option Addr) (n2 d2:Nat) (P:List PC) (X:List Fx) (A:Option Addr) (n c:Nat) (l:List Nat) (w:World)
  (hH:Cells w H [.slice A0 n0 d0,.slice A1 n1 d1,.slice A2 n2 d2]) (hG:Cells w G [.slice A0 n0 d0,.slice A1 n1 d1,.slice A2 n2 d2]) (hp:shPr.In w A1 n1 P) (hn1:n1≤9223372036854775806) (hx:shX.In w A2 n2 X) (hW:WOk P X)
  (hl:Is w A n (l.map fun i:Nat=>(i:Int))) (hln:l.length≤1000) (hlx:∀ i ∈ l,i<X.length) :
  Rt 31 #[.slice A n c,.pointer (some ⟨H,0,none⟩),.pointer (some ⟨G,0,none⟩)] w (.int .i64 (uW (wN P X) l)):=by
 obtain rfl:n=l.length:=hl.1.trans (List.length_map ..);obtain rfl:n2=X.length:=hx.1;have HL:=hj_ hl;have HX:=hj_ hx;have HWk:=hj_ hW;have HLx:=hj_ hlx;have HLn:=hj_ hln;have HBd:=hj_ (show ∀ k,k≤l.length→0≤uW (wN P X) (l.take k)∧uW (wN P X) (l.take k)≤1048576000 from fun k hk=>by
  have h:=uW_bd (W:=wN P X) (B:=1048576) o_ (l:=l.take k) (fun i hi=>q0iy hW i (hlx i (List.mem_of_mem_take hi)))
  rw [List.length_take,Nat.min_eq_left hk] at h
  omega)
 have HPf:=hj_ (fun (x:Fx) (p:PC) w' (hb:Below w.heap.size w w') (h:pcF P x.pr=some p)=>q0fd A0 n0 d0 A1 n1 d1 A2 X.length d2 P x p w' (hp.below hb) hn1 h)
 have HC:=hj_ (show ∀ w',Below w.heap.size w w'→w'.cell? ⟨H,0,none⟩=some (.slice A0 n0 d0)∧w'.cell? ⟨H,1,none⟩=some (.slice A1 n1 d1)∧w'.cell? ⟨H,2,none⟩=some (.slice A2 X.length d2)∧w'.cell? ⟨G,2,none⟩=some (.slice A2 X.length d2) from fun w' hb =>
  ⟨(hb.cell (p:=⟨H,0,none⟩) hH.1).trans (hH.at_ (j:=0) rfl),(hb.cell (p:=⟨H,1,none⟩) hH.1).trans (hH.at_ (j:=1) rfl),(hb.cell (p:=⟨H,2,none⟩) hH.1).trans (hH.at_ (j:=2) rfl),(hb.cell (p:=⟨G,2,none⟩) hG.1).trans (hG.at_ (j:=2) rfl)⟩)
 clear hl hx hW hlx hln hp hH hG
 go_enter func31,ntmps31
 go_wp2_with fail
 go_loopw [5,10] (fun sv iv wr=>∃ k:Nat,k≤l.length∧iv=.int .i64 k∧sv=.int .i64 (uW (wN P X) (l.take k))∧Below w.heap.size w wr) (fun _ iv _=>l.length-(intOf iv).toNat)
 case atStart=>exact ⟨0,Nat.zero_le _,rfl,rfl,br_⟩
 case round =>
  obtain ⟨k,hk,rfl,rfl,hB⟩:=hrel
  by_cases hlt:k<l.length
  ·obtain ⟨b,o,rfl,hbl,hcell⟩:=HL.out.at1 (k:=k) (by rw [List.length_map];exact hlt)
   rw [List.getElem_map] at hcell;have p0:=(hB.cell (p:=⟨b,o+k,none⟩) hbl).trans hcell;have hbw:b<wr.heap.size:=Nat.lt_of_lt_of_le hbl hB.size;have hpush:=q0ib (wN P X) (l.take k) l[k];rw [← List.take_succ_eq_append_getElem hlt] at hpush;have hm:=HLx.out l[k] (List.getElem_mem hlt);have hbd1:=HBd.out (k+1) hlt;have hwn:wN P X l[k]=wattV P X[l[k]]:=by unfold wN;rw [List.getD_eq_getElem?_getD,List.getElem?_eq_getElem hm,Option.getD_some]
   rw [hpush,hwn] at hbd1;rw [hwn] at hpush;obtain ⟨p,hp,hw0,hw1⟩:=HWk.out X[l[k]] (List.getElem_mem hm);rw [q0iz hp] at hpush hbd1;have HPu:=hj_ hpush;have i0:(0:Int)≤(k:Int):=o_
   have i1:(k:Int)<(l.length:Int):=o_
   have w0:IntKind.i64.wrap ((k:Int)+1)=(k:Int)+1:=IntWalk.i64_in _ (oh_ HLn.out)
   have w1:IntKind.i64.wrap (uW (wN P X) (l.take k)+p.wa)=uW (wN P X) (l.take k)+p.wa:=IntWalk.i64_in _ o_
   have hpr:=fun w' hb=>HPf.out X[l[k]] p w' hb hp
   have HPr:=hj_ hpr;obtain ⟨bx,ox,rfl,hbx,hcx⟩:=fx_at HX.out o_
   have HCx:=hj_ (fun (w':World) (hb:Below w.heap.size w w')=>(fun (q:Nat)=>hb.cell (p:=⟨bx,q,none⟩) hbx))
   have hk7:=hcx l[k] hm;have j0:(0:Int)≤(l[k]:Int):=o_
   have j1:(l[k]:Int)<(X.length:Int):=o_
   clear hcell hpush hwn hp hcx hbd1 hw0 hw1 hpr;generalize X[l[k]]=x at *;generalize l[k]=m at *;obtain ⟨ch,pt,pr,un,ad,ph,cb⟩:=x;obtain ⟨ps,pf,pw,pA,pn,pc⟩:=p;dsimp only at hk7 HPu w1;have HPr2:=hj_ (show ∀ w',Below w.heap.size w w'→Calls prog 32 #[.agg #[.slice A0 n0 d0,.slice A1 n1 d1,.slice (some ⟨bx,ox,none⟩) X.length d2],.agg #[.int .i64 ch,.int .i64 pt,.string pr,.int .i64 un,.int .i64 ad,.int .i64 ph,.string cb]] w' fun e w''=>e=.returned (.agg #[.string ps,.int .i64 pf,.int .i64 pw,.slice pA pn pc])∧Below w'.heap.size w' w'' from HPr.out)
   clear HPr;have hB1:=q18 hB 1;have HB1:=hj_ hB1;obtain ⟨c0,c1,c2,c3⟩:=HC.out _ hB1;have kk:=HCx.out _ hB1;have q0:=(kk _).trans hk7.1;have q1:=(kk _).trans hk7.2.1;have q2:=(kk _).trans hk7.2.2.1;have q3:=(kk _).trans hk7.2.2.2.1;have q4:=(kk _).trans hk7.2.2.2.2.1;have q5:=(kk _).trans hk7.2.2.2.2.2.1;have q6:=(kk _).trans hk7.2.2.2.2.2.2;have hbx1:bx<(wr.drewN 1).heap.size:=Nat.lt_of_lt_of_le hbx hB1.size;have HK7:=hj_ hk7;generalize uW (wN P X) (l.take k)=sm at *;have hfd:∀ w,(Instr.field 87 (.agg #[.string ps,.int .i64 pf,.int .i64 pw,.slice pA pn pc]) 2).run prog w=.ok (.int .i64 pw) w:=fun w=>k_
   clear kk hk7 hB1 hB;go_wp2_with fail;refine wp_region_held_drew (S:=fun w'=>w'.cell? ⟨H,0,none⟩=some (.slice A0 n0 d0)∧w'.cell? ⟨H,1,none⟩=some (.slice A1 n1 d1)∧w'.cell? ⟨H,2,none⟩=some (.slice (some ⟨bx,ox,none⟩) X.length d2)∧w'.cell? ⟨G,2,none⟩=some (.slice (some ⟨bx,ox,none⟩) X.length d2)∧w'.cell? ⟨bx,ox+m*7,none⟩=some (.int .i64 ch)∧w'.cell? ⟨bx,ox+m*7+1,none⟩=some (.int .i64 pt)∧w'.cell? ⟨bx,ox+m*7+2,none⟩=some (.string pr)∧w'.cell? ⟨bx,ox+m*7+3,none⟩=some (.int .i64 un)∧w'.cell? ⟨bx,ox+m*7+4,none⟩=some (.int .i64 ad)∧w'.cell? ⟨bx,ox+m*7+5,none⟩=some (.int .i64 ph)∧w'.cell? ⟨bx,ox+m*7+6,none⟩=some (.string cb)) k_ ⟨c0,c1,c2,c3,q0,q1,q2,q3,q4,q5,q6⟩ (fun hHeld=>?_)
   refine tq 0 ?_;refine tq 1 ?_;refine tq 2 ?_;refine tq 3 ?_;refine tq 4 ?_;refine tq 5 ?_;refine tq 6 ?_;refine tr 7 fun K hK=>?_
   go_simp
   go_at_call 32;refine (HPr2.out _ HB1.out).mono ?_;rintro e w2 ⟨rfl,hb⟩;have hB2:=ht_ HB1.out hb;have HB2:=hj_ hB2;replace c0:=(HC.out _ hB2).1;replace c1:=(HC.out _ hB2).2.1;replace c2:=(HC.out _ hB2).2.2.1;replace c3:=(HC.out _ hB2).2.2.2;replace q0:=(HCx.out _ hB2 _).trans HK7.out.1;replace q1:=(HCx.out _ hB2 _).trans HK7.out.2.1;replace q2:=(HCx.out _ hB2 _).trans HK7.out.2.2.1;replace q3:=(HCx.out _ hB2 _).trans HK7.out.2.2.2.1;replace q4:=(HCx.out _ hB2 _).trans HK7.out.2.2.2.2.1;replace q5:=(HCx.out _ hB2 _).trans HK7.out.2.2.2.2.2.1;replace q6:=(HCx.out _ hB2 _).trans HK7.out.2.2.2.2.2.2;clear hb hB2
   go_wp2_with fail;refine hK.out _ _ ⟨c0,c1,c2,c3,q0,q1,q2,q3,q4,q5,q6⟩ (fun hHeld=>?_)
   clear hK K;refine tq 8 ?_;refine tq 9 ?_;refine tq 10 ?_;refine wpAnyH_done k_ ?_ _
   go_wp2_with fail
   go_roundw
   case rel=>exact ⟨k+1,hlt,by go_num,by rw [HPu.out],HB2.out⟩
   case measure=>simp [intOf];omega
  ·obtain rfl:k=l.length:=by omega
   rw [List.take_length];go_wp2_with fail;go_ret;exact ⟨rfl,hB⟩
def cmpU (W:Nat→Int) (a b:List Nat):Int:=if Lib.compareInt (uW W b) (uW W a)≠0 then Lib.compareInt (uW W b) (uW W a) else (headN a:Int)-(headN b:Int)
theorem q0ev (g:Nat) (cb:Array Value) (eg:∀ args w,(callFunc g args).run prog w=.ok (.enter g args) w) (Wf:Nat→Int) (Q:Nat) (a b:List Nat) (A B:Option Addr) (na nb ca cb2:Nat) (w:World) (hq:w.cell? ⟨Q,0,none⟩=some (.func (.func g) #[] cb)) (hQ:Q<w.heap.size)
  (ha:Is w A na (a.map fun i:Nat=>(i:Int))) (hb:Is w B nb (b.map fun i:Nat=>(i:Int))) (ha0:a≠[]) (hb0:b≠[]) (hbig:∀ i ∈ a ++ b,i≤1000)
  (hwa:∀ w',Below w.heap.size w w'→Calls prog g (#[.slice A na ca] ++ cb) w' fun e w''=>e=.returned (.int .i64 (uW Wf a))∧Below w'.heap.size w' w'')
  (hwb:∀ w',Below w.heap.size w w'→Calls prog g (#[.slice B nb cb2] ++ cb) w' fun e w''=>e=.returned (.int .i64 (uW Wf b))∧Below w'.heap.size w' w'') :
  Rt 34 #[.slice A na ca,.slice B nb cb2,.pointer (some ⟨Q,0,none⟩)] w (.int .i64 (cmpU Wf a b)):=by
 obtain rfl:na=a.length:=ha.1.trans (List.length_map ..);obtain rfl:nb=b.length:=hb.1.trans (List.length_map ..);have hal:0<a.length:=List.length_pos_iff.2 ha0;have hbl:0<b.length:=List.length_pos_iff.2 hb0;obtain ⟨b1,o1,rfl,hb1,hc1⟩:=ha.at1 (k:=0) (by rw [List.length_map];exact hal)
 obtain ⟨b2,o2,rfl,hb2,hc2⟩:=hb.at1 (k:=0) (by rw [List.length_map];exact hbl)
 rw [List.getElem_map] at hc1 hc2;have e1:a[0]=headN a:=by cases a with | nil=>exact absurd rfl ha0 | cons x l=>rfl
 have e2:b[0]=headN b:=by cases b with | nil=>exact absurd rfl hb0 | cons x l=>rfl
 have h1:=hbig a[0] s_
 have h2:=hbig b[0] s_
 rw [e1] at hc1 h1;rw [e2] at hc2 h2;have HC:=hj_ (fun x y w=>cmp_Compare_int x y w)
 obtain ⟨E,hE⟩:=xe_ (cmpU Wf a b);rw [hE];unfold cmpU at hE;have HWa:=hj_ hwa;have HWb:=hj_ hwb;have hB:=Below.refl w.heap.size w;have HQ:=hj_ (fun (w':World) (h:Below w.heap.size w w')=>(h.cell (p:=⟨Q,0,none⟩) hQ).trans hq)
 have HD1:=hj_ (fun (w':World) (h:Below w.heap.size w w')=>And.intro ((h.cell (p:=⟨b1,o1+0,none⟩) hb1).trans hc1) (Nat.lt_of_lt_of_le hb1 h.size))
 have HD2:=hj_ (fun (w':World) (h:Below w.heap.size w w')=>And.intro ((h.cell (p:=⟨b2,o2+0,none⟩) hb2).trans hc2) (Nat.lt_of_lt_of_le hb2 h.size))
 have ws:IntKind.i64.wrap ((headN a:Int)-(headN b:Int))=(headN a:Int)-(headN b:Int):=IntWalk.i64_in _ o_
 have i1:(0:Int)<(a.length:Int):=o_
 have i2:(0:Int)<(b.length:Int):=o_
 clear ha hb ha0 hb0 hbig hwa hwb hc1 hc2 e1 e2 h1 h2 hq hQ hb1 hb2;generalize uW Wf a=x at *;generalize uW Wf b=y at *;generalize headN a=ia at *;generalize headN b=ib at *;generalize a.length=la at *;generalize b.length=lb at *
 go_enter func34,ntmps34
 go_wp2_with fail;replace hB:=q18 hB 1;have c0:=HQ.out _ hB;refine wp_region_held_drew (S:=fun w'=>w'.cell? ⟨Q,0,none⟩=some (.func (.func g) #[] cb)) k_ (by first | exact c0) (fun hHeld=>?_)
 refine tq 0 ?_;refine tq 1 ?_;refine tq 3 ?_;refine tq 4 ?_;refine tr 2 fun K hK=>?_
 go_simp
 go_at_fn g;refine up_ (HWb.out _ hB) hB fun wk hB=>?_;replace c0:=HQ.out _ hB
 go_wp2_with fail;refine hK.out _ _ (by first | exact c0) (fun hHeld=>?_)
 clear hK K;refine tr 5 fun K hK=>?_
 go_simp
 go_at_fn g;refine up_ (HWa.out _ hB) hB fun wk hB=>?_;replace c0:=HQ.out _ hB
 go_wp2_with fail;refine hK.out _ _ (by first | exact c0) (fun hHeld=>?_)
 clear hK K;refine tr 6 fun K hK=>?_
 go_simp
 go_at_call 35;refine (HC.out _ _ _).mono ?_;rintro e wk ⟨rfl,rfl⟩
 go_wp2_with fail;refine hK.out _ _ (by first | exact c0) (fun hHeld=>?_)
 clear hK K;refine tq 7 ?_;refine wpAnyH_done k_ ?_ _
 replace HC:=hj_ (fun w=>HC.out y x w)
 generalize Lib.compareInt y x=z at *
 by_cases hz:z=0
 ·rw [if_neg (fun h=>h hz)] at hE
  subst hz;subst hE;replace hB:=q18 hB 1;obtain ⟨d1,l1⟩:=HD1.out _ hB;obtain ⟨d2,l2⟩:=HD2.out _ hB;rw [Nat.add_zero] at d1 d2;go_wp2_with fail;refine wp_region_held_drew (S:=fun w'=>w'.cell? ⟨b1,o1,none⟩=some (.int .i64 (ia:Int))∧w'.cell? ⟨b2,o2,none⟩=some (.int .i64 (ib:Int))) k_ ⟨d1,d2⟩ (fun hHeld=>?_)
  refine tq 0 ?_;refine tq 1 ?_;refine tq 2 ?_;refine tq 3 ?_;refine tq 4 ?_;refine tq 5 ?_;refine tq 6 ?_;refine tq 7 ?_;refine wpAnyH_done k_ ?_ _
  go_wp2_with fail;go_ret;exact ⟨rfl,hB⟩
 ·rw [if_pos hz] at hE
  subst hE;have g1:(z == 0)=false:=by simpa using hz
  have g2:(z != 0)=true:=by simpa using hz
  go_wp2_with fail;go_ret;exact ⟨rfl,hB⟩
theorem q0kb {name:ByteArray} {foot watts:Int} {l:List Fea} (h:profE name foot watts l L=0):0≤watts∧watts≤1048576:=by
 unfold profE at h
 by_cases h1:errA L≠0
 ·rw [if_pos h1] at h;exact absurd h h1
 rw [if_neg h1] at h
 by_cases h2:nmB name=false
 ·rw [if_pos h2] at h;cases h
 rw [if_neg h2] at h
 by_cases h3:foot<1∨512<foot∨watts<0∨1048576<watts
 ·rw [if_pos h3] at h;cases h
 omega
theorem q0kp (h:uniE L PL X=0):∀ x ∈ PL,0≤x.1.wa∧x.1.wa≤1048576:=by
 unfold uniE at h
 by_cases h1:errA L≠0
 ·rw [if_pos h1] at h;exact absurd h h1
 rw [if_neg h1] at h
 by_cases h2:32<PL.length
 ·rw [if_pos h2] at h;cases h
 rw [if_neg h2] at h
 by_cases h3:firstE (prE L PL) PL.length≠0
 ·rw [if_pos h3] at h;exact absurd h h3
 intro x hx;obtain ⟨i,hi,rfl⟩:=List.getElem_of_mem hx;have hp:=q89 (Classical.not_not.1 h3) i hi;unfold prE at hp;rw [qa1 hi] at hp
 by_cases h5:profE PL[i].1.s PL[i].1.ft PL[i].1.wa PL[i].2 L≠0
 ·rw [if_pos h5] at hp;exact absurd hp h5
 ·exact q0kb (Classical.not_not.1 h5)
theorem q0kq (h:uniE L PL X=0):WOk (PL.map Prod.fst) X∧X.length≤64∧∀ x ∈ X,1≤x.ph∧x.ph≤3:=by
 obtain ⟨_,h1,h2,_⟩:=qu8 h;refine ⟨fun x hx=>?_,h1,fun x hx=>?_⟩
 ·obtain ⟨i,hi,rfl⟩:=List.getElem_of_mem hx
  obtain ⟨_,_,_,p,hp⟩:=h2 i hi;have hm:p ∈ PL.map Prod.fst:=List.mem_of_find?_eq_some hp;obtain ⟨y,hy,rfl⟩:=List.mem_map.1 hm;exact ⟨_,hp,q0kp h y hy⟩
 ·obtain ⟨i,hi,rfl⟩:=List.getElem_of_mem hx
  have hr:=(h2 i hi).1;unfold qkt at hr;rw [Bool.and_eq_true] at hr;exact of_decide_eq_true hr.2
theorem q0fs (b o c:Nat) (x y z:Int) (w:World) (h0:w.cell? ⟨b,o,none⟩=some (.int .i64 x)) (h1:w.cell? ⟨b,o+1,none⟩=some (.int .i64 y)) (h2:w.cell? ⟨b,o+2,none⟩=some (.int .i64 z)) (hb:b<w.heap.size) :
  Rt 37 #[.slice (some ⟨b,o,none⟩) 3 c] w (.int .i64 (min (min x y) z)):=by
 go_enter func37,ntmps37
 go_wp2_with fail;have HC:=hj_ (And.intro h0 (And.intro h1 h2));have HBb:=hj_ hb;clear h0 h1 h2 hb
 go_loopw [3,4] (fun mv kv wr=>∃ (k:Nat) (m:Int),1≤k∧k≤3∧kv=.int .i64 k∧mv=.int .i64 m∧(k=1→m=x)∧(k=2→m=min x y)∧(k=3→m=min (min x y) z)∧Below w.heap.size w wr) (fun _ kv _=>3-(intOf kv).toNat)
 case atStart=>exact ⟨1,x,o_,o_,rfl,rfl,fun _=>rfl,fun h=>absurd h o_,fun h=>absurd h o_,br_⟩
 case round =>
  obtain ⟨k,m,hk1,hk3,rfl,rfl,e1,e2,e3,hB⟩:=hrel;have HBr:=hj_ hB;have p0:=(hB.cell (p:=⟨b,o,none⟩) HBb.out).trans HC.out.1;have p1:=(hB.cell (p:=⟨b,o+1,none⟩) HBb.out).trans HC.out.2.1;have p2:=(hB.cell (p:=⟨b,o+2,none⟩) HBb.out).trans HC.out.2.2;have hbw:b<wr.heap.size:=Nat.lt_of_lt_of_le HBb.out hB.size;clear hB;obtain rfl | rfl | rfl:k=1∨k=2∨k=3:=o_
  ·obtain rfl:=e1 rfl
   clear e1 e2 e3;go_wp2_with fail
   go_roundw
   case rel=>exact ⟨2,_,o_,o_,by go_num,rfl,fun h=>absurd h o_,fun _=>rfl,fun h=>absurd h o_,HBr.out⟩
   case measure=>simp [intOf]
  ·obtain rfl:=e2 rfl
   clear e1 e2 e3;go_wp2_with fail
   go_roundw
   case rel=>exact ⟨3,_,o_,o_,by go_num,rfl,fun h=>absurd h o_,fun h=>absurd h o_,fun _=>o_,HBr.out⟩
   case measure=>simp [intOf]
  ·obtain rfl:=e3 rfl
   clear e1 e2 e3;go_wp2_with fail;go_ret;exact ⟨rfl,HBr.out⟩
theorem q0fr (b o c:Nat) (x y z:Int) (w:World) (h0:w.cell? ⟨b,o,none⟩=some (.int .i64 x)) (h1:w.cell? ⟨b,o+1,none⟩=some (.int .i64 y)) (h2:w.cell? ⟨b,o+2,none⟩=some (.int .i64 z)) (hb:b<w.heap.size) :
  Rt 53 #[.slice (some ⟨b,o,none⟩) 3 c] w (.int .i64 (max (max x y) z)):=by
 go_enter func53,ntmps53
 go_wp2_with fail;have HC:=hj_ (And.intro h0 (And.intro h1 h2));have HBb:=hj_ hb;clear h0 h1 h2 hb
 go_loopw [3,4] (fun mv kv wr=>∃ (k:Nat) (m:Int),1≤k∧k≤3∧kv=.int .i64 k∧mv=.int .i64 m∧(k=1→m=x)∧(k=2→m=max x y)∧(k=3→m=max (max x y) z)∧Below w.heap.size w wr) (fun _ kv _=>3-(intOf kv).toNat)
 case atStart=>exact ⟨1,x,o_,o_,rfl,rfl,fun _=>rfl,fun h=>absurd h o_,fun h=>absurd h o_,br_⟩
 case round =>
  obtain ⟨k,m,hk1,hk3,rfl,rfl,e1,e2,e3,hB⟩:=hrel;have HBr:=hj_ hB;have p0:=(hB.cell (p:=⟨b,o,none⟩) HBb.out).trans HC.out.1;have p1:=(hB.cell (p:=⟨b,o+1,none⟩) HBb.out).trans HC.out.2.1;have p2:=(hB.cell (p:=⟨b,o+2,none⟩) HBb.out).trans HC.out.2.2;have hbw:b<wr.heap.size:=Nat.lt_of_lt_of_le HBb.out hB.size;clear hB;obtain rfl | rfl | rfl:k=1∨k=2∨k=3:=o_
  ·obtain rfl:=e1 rfl
   clear e1 e2 e3;go_wp2_with fail
   go_roundw
   case rel=>exact ⟨2,_,o_,o_,by go_num,rfl,fun h=>absurd h o_,fun _=>rfl,fun h=>absurd h o_,HBr.out⟩
   case measure=>simp [intOf]
  ·obtain rfl:=e2 rfl
   clear e1 e2 e3;go_wp2_with fail
   go_roundw
   case rel=>exact ⟨3,_,o_,o_,by go_num,rfl,fun h=>absurd h o_,fun h=>absurd h o_,fun _=>o_,HBr.out⟩
   case measure=>simp [intOf]
  ·obtain rfl:=e3 rfl
   clear e1 e2 e3;go_wp2_with fail;go_ret;exact ⟨rfl,HBr.out⟩
theorem q0ip (A0:Option Addr) (n0 d0:Nat) (A1:Option Addr) (n1 d1:Nat) (A2:Option Addr) (n2 d2:Nat) (E:Int) (w:World) (hck:∀ w',Below w.heap.size w w'→Calls prog 62 #[.agg #[.slice A0 n0 d0,.slice A1 n1 d1,.slice A2 n2 d2]] w' fun e w''=>e=.returned (.int .i64 E)∧Below w'.heap.size w' w'') :
  Rt 27 #[.agg #[.slice A0 n0 d0,.slice A1 n1 d1,.slice A2 n2 d2]] w (.tuple #[.agg #[.slice A0 n0 d0,.slice A1 n1 d1,.slice A2 n2 d2],.int .i64 E]):=by
 have HCk:=hj_ hck;clear hck;obtain ⟨W,HW,HB0,HK⟩:=bx3_3 w (.slice A0 n0 d0) (.slice A1 n1 d1) (.slice A2 n2 d2) 26 (.slice none 0 0) (.slice none 0 0) (.slice none 0 0) 75;have hB:=Below.refl W.heap.size W;obtain ⟨c0,c1,c2,c3,c4,c5⟩:=HK.out W hB;have hsz:w.heap.size+1<W.heap.size:=by rw [HW.out];simp
 have HFr:=hj_ (show ∀ w',Below W.heap.size W w'→∀ j,w'.frozen? ⟨w.heap.size+1,j,none⟩=false from fun w' h j=>by
  refine (h.frozen (p:=⟨w.heap.size+1,j,none⟩) hsz).trans ?_;rw [HW.out];exact World.frozen?_alloc_at _ _ _ _ s_)
 have HSz:=hj_ hsz;clear hsz;have hne:w.heap.size+1≠w.heap.size:=o_
 have hne2:w.heap.size≠w.heap.size+1:=o_
 go_enter func27,ntmps27
 go_wp2_with fail;rw [← HW.out];replace hB:=q18 hB 1;obtain ⟨c0,c1,c2,c3,c4,c5⟩:=HK.out _ hB;refine wp_region_held_drew (S:=fun w'=>w'.cell? ⟨w.heap.size,0,none⟩=some (.slice A0 n0 d0)∧w'.cell? ⟨w.heap.size,1,none⟩=some (.slice A1 n1 d1)∧w'.cell? ⟨w.heap.size,2,none⟩=some (.slice A2 n2 d2)) k_ ⟨c0,c1,c2⟩ (fun hHeld=>?_)
 refine tq 0 ?_;refine tq 1 ?_;refine tq 2 ?_;refine tr 3 fun K hK=>?_
 go_simp
 go_at_call 62;refine up_ (HCk.out _ (HB0.out.trans ((hB.trans (br_)).mono HB0.out.size))) hB fun wk hB=>?_;obtain ⟨c0,c1,c2,c3,c4,c5⟩:=HK.out _ hB;have f0:=HFr.out _ hB 0;have f1:=HFr.out _ hB 1;have f2:=HFr.out _ hB 2;have hs2:=Nat.lt_of_lt_of_le HSz.out hB.size
 go_wp2_with fail;refine hK.out _ _ ⟨c0,c1,c2⟩ (fun hHeld=>?_)
 clear hK K;refine tr 4 fun K hK=>?_
 go_simp
 refine hK.out _ _ (by first | exact ⟨(sf_ hne).trans ((sf_ hne).trans ((sf_ hne).trans c0)),(sf_ hne).trans ((sf_ hne).trans ((sf_ hne).trans c1)),(sf_ hne).trans ((sf_ hne).trans ((sf_ hne).trans c2))⟩ | exact ⟨(sf_ hne2).trans ((sf_ hne2).trans ((sf_ hne2).trans c0)),(sf_ hne2).trans ((sf_ hne2).trans ((sf_ hne2).trans c1)),(sf_ hne2).trans ((sf_ hne2).trans ((sf_ hne2).trans c2))⟩) (fun hHeld=>?_)
 clear hK K;refine tq 5 ?_;refine wpAnyH_done k_ ?_ _
 have hz:=ht_ HB0.out hB;clear c0 c1 c2;go_wp2_with fail
 (try simp only [Exit.inBlock,Exit.then])
 refine bodyPost_ret (v:=.tuple #[.agg #[.slice A0 n0 d0,.slice A1 n1 d1,.slice A2 n2 d2],.int .i64 E]) ?_ rfl ⟨rfl,?_⟩
 ·rw [results_cell_tmp rfl]
  go_simp
 ·(repeat' first | exact br_ | assumption | apply Below.drew | apply q18 | refine Below.alloc ?_ ?_ _ | refine Below.setCell ?_ ?_ _ | refine Below.trans ?_ (Below.mono ‹_› ?_) | omega | (simp;omega) | simp)
theorem q0if (A0:Option Addr) (n0 d0:Nat) (A1:Option Addr) (n1 d1:Nat) (A2:Option Addr) (n2 d2:Nat) (A3:Option Addr) (n3 d3:Nat) (w:World) (hfr:∀ w',Below w.heap.size w w'→Calls prog 100 #[.agg #[.slice A0 n0 d0,.slice A1 n1 d1,.slice A2 n2 d2],.slice A3 n3 d3] w' fun e w''=>∃ r,e=.returned (.tuple #[r,.int .i64 0])∧Below w'.heap.size w' w'') :
  Rt 57 #[.agg #[.slice A0 n0 d0,.slice A1 n1 d1,.slice A2 n2 d2],.slice A3 n3 d3] w (.tuple #[.agg #[.slice A0 n0 d0,.slice A1 n1 d1,.slice A2 n2 d2],.int .i64 0]):=by
 have HFm:=hj_ hfr;clear hfr;obtain ⟨W,HW,HB0,HK⟩:=bx3_3 w (.slice A0 n0 d0) (.slice A1 n1 d1) (.slice A2 n2 d2) 26 (.slice none 0 0) (.slice none 0 0) (.slice none 0 0) 75;have hB:=Below.refl W.heap.size W;obtain ⟨c0,c1,c2,c3,c4,c5⟩:=HK.out W hB;have hsz:w.heap.size+1<W.heap.size:=by rw [HW.out];simp
 have HFr:=hj_ (show ∀ w',Below W.heap.size W w'→∀ j,w'.frozen? ⟨w.heap.size+1,j,none⟩=false from fun w' h j=>by
  refine (h.frozen (p:=⟨w.heap.size+1,j,none⟩) hsz).trans ?_;rw [HW.out];exact World.frozen?_alloc_at _ _ _ _ s_)
 have HSz:=hj_ hsz;clear hsz
 go_enter func57,ntmps57
 go_wp2_with fail;rw [← HW.out];go_wp2_with fail;refine (HFm.out _ (ht_ HB0.out hB)).mono ?_;rintro e wk ⟨r,rfl,hb⟩;replace hB:=ht_ hB hb;clear hb;obtain ⟨c0,c1,c2,c3,c4,c5⟩:=HK.out _ hB;have f0:=HFr.out _ hB 0;have f1:=HFr.out _ hB 1;have f2:=HFr.out _ hB 2;have hs2:=Nat.lt_of_lt_of_le HSz.out hB.size;have hz:=ht_ HB0.out hB;go_wp2_with fail
 (try simp only [Exit.inBlock,Exit.then])
 refine bodyPost_ret (v:=.tuple #[.agg #[.slice A0 n0 d0,.slice A1 n1 d1,.slice A2 n2 d2],.int .i64 0]) ?_ rfl ⟨rfl,?_⟩
 ·rw [results_cell_tmp rfl]
  go_simp
 ·(repeat' first | exact br_ | assumption | apply Below.drew | apply q18 | refine Below.alloc ?_ ?_ _ | refine Below.setCell ?_ ?_ _ | refine Below.trans ?_ (Below.mono ‹_› ?_) | omega | (simp;omega) | simp)
theorem q0eh (W:Nat→Int) (x y:List Nat):0≤cmpU W y x↔(uW W y<uW W x∨(uW W x=uW W y∧headN x≤headN y)):=by
 unfold cmpU Lib.compareInt;generalize uW W x=a;generalize uW W y=b
 split <;> (try split at *) <;> (try split at *) <;> omega
theorem q0eg (W:Nat→Int) (x y:List Nat) (h:cmpU W x y<0):0≤cmpU W y x:=by
 rw [q0eh];have h2:¬ 0≤cmpU W x y:=o_
 rw [q0eh] at h2;omega
theorem q0ei (W:Nat→Int) (x y z:List Nat) (h1:0≤cmpU W y x) (h2:0≤cmpU W z y):0≤cmpU W z x:=by
 rw [q0eh] at *;omega
section
open Classical in
noncomputable def decG (vals:List Value) (gs:List (List Nat)) (v:Value):List Nat:=if h:∃ j,vals[j]? = some v then gs.getD (Classical.choose h) [] else []
theorem q0ej {gs:List (List Nat)} (hd:∀ (i j:Nat) v,vals[i]? = some v→vals[j]? = some v→i=j) {j:Nat} (h:vals[j]? = some v):decG vals gs v=gs.getD j []:=by
 have he:∃ j,vals[j]? = some v:=⟨j,h⟩;unfold decG;rw [dif_pos he,hd _ _ v (Classical.choose_spec he) h]
end
theorem Grps.val {α:Type} {enc:List α→List Value} {gs:List (List α)} (h:Grps w base te tS z enc ov vals gs) (hne:∀ g ∈ gs,g≠[]) {i:Nat} (hv:vals[i]? = some v) :
  ∃ (hi:i<gs.length) (b c:Nat),v=.slice (some ⟨b,0,none⟩) gs[i].length c∧w.ownsRow base te z v gs[i].length (enc gs[i])∧base≤b∧b<w.heap.size:=by
 have hl:=h.len;have hi:i<gs.length:=by have:=(List.getElem?_eq_some_iff.1 hv).1;omega
 obtain ⟨v',hv',hr⟩:=h.row i hi;rw [hv] at hv'
 injection hv' with hv'
 subst hv';obtain ⟨b,c,rfl,h1,h2⟩:=hr.form (List.length_pos_iff.2 (hne _ (List.getElem_mem hi)));exact ⟨hi,b,c,rfl,hr,h1,h2⟩
theorem Grps.inj {α:Type} {enc:List α→List Value} {gs:List (List α)} (h:Grps w base te tS z enc ov vals gs) (hne:∀ g ∈ gs,g≠[]) (i j:Nat) (v:Value) (hi:vals[i]? = some v) (hj:vals[j]? = some v):i=j:=by
 rcases Nat.lt_trichotomy i j with h1 | h1 | h1
 ·obtain ⟨_,b,c,rfl,_⟩:=h.val hne hi
  exact absurd rfl (h.dis i j _ _ b o_ hi hj rfl)
 ·exact h1
 ·obtain ⟨_,b,c,rfl,_⟩:=h.val hne hi
  exact absurd rfl (h.dis i j _ _ b o_ hi hj rfl)
theorem Grps.dec {enc:List Nat→List Value} {gs:List (List Nat)} (h:Grps w base te tS z enc ov vals gs) (hne:∀ g ∈ gs,g≠[]):vals.map (decG vals gs)=gs:=by
 apply List.ext_getElem (by rw [List.length_map];exact h.len)
 intro i h1 h2;rw [List.length_map] at h1;rw [List.getElem_map,q0ej (h.inj hne) (List.getElem?_eq_getElem h1),List.getD_eq_getElem?_getD,List.getElem?_eq_getElem h2]
 rfl
theorem Grps.sr {α:Type} {enc:List α→List Value} {B n c:Nat} {gs:List (List α)} (h:Grps w base te tS z enc (.slice (some ⟨B,0,none⟩) n c) vals gs):∃ sp,SR w B tS sp vals w:=by
 rcases h.out.2 with ⟨h1,_⟩ | ⟨g,cap,cur,h1,h2,h3,h4,h5,h6,h7⟩
 ·cases h1
 ·injection h1 with h1 h8 h9
  injection h1 with h1
  injection h1 with h1
  subst h1;rw [Nat.mul_one] at h7;refine ⟨cur.toList.drop gs.length,⟨rfl,rfl,rfl,Nat.le_refl _,fun _ _ _=>rfl⟩,?_⟩
  unfold RowAt;rw [h3]
  congr 2
  apply Array.ext'
  rw [← h7];exact (List.take_append_drop gs.length cur.toList).symm
theorem idx3 {α:Type} (p:α→Bool) (a b c:α):idxOf p [a,b,c]=if p a then 0 else if p b then 1 else if p c then 2 else -1:=by
 have h1:idxOf p [c]=if p c then 0 else -1:=by
  by_cases h:p c=true
  ·simp [idxOf,h]
  ·simp [idxOf,h]
 have h2:idxOf p [b,c]=if p b then 0 else if p c then 1 else -1:=by
  by_cases h:p b=true
  ·simp [idxOf,h]
  ·rw [idxOf,if_neg h,if_neg h,h1]
   by_cases h':p c=true
   ·rw [if_pos h',if_pos h'];rfl
   ·rw [if_neg h',if_neg h'];rfl
 by_cases h:p a=true
 ·rw [idxOf,if_pos h,if_pos h]
 ·rw [idxOf,if_neg h,if_neg h,h2]
  by_cases h':p b=true
  ·rw [if_pos h',if_pos h'];rfl
  ·rw [if_neg h',if_neg h']
   by_cases h'':p c=true
   ·rw [if_pos h'',if_pos h''];rfl
   ·rw [if_neg h'',if_neg h''];rfl
theorem q0ff (s:Int × Int × Int):idxOf (fun x=>decide (x=min (min s.1 s.2.1) s.2.2)) [s.1,s.2.1,s.2.2]=(lgt s:Int):=by
 obtain ⟨a,b,c⟩:=s;rw [idx3];unfold lgt;simp only [decide_eq_true_eq]
 by_cases h1:a≤b∧a≤c
 ·rw [if_pos h1,if_pos o_];rfl
 ·rw [if_neg h1,if_neg o_]
  by_cases h2:b≤c
  ·rw [if_pos h2,if_pos o_];rfl
  ·rw [if_neg h2,if_neg o_,if_pos o_];rfl
theorem vs_ph:∀ (l:List Fx) (k:Nat) (hk:k<l.length) (v:Int),(shX.vs l).set (k*7+5) (.int .i64 v)=shX.vs (l.set k { l[k] with ph:=v })
 | [],k,hk,_=>by simp at hk
 | a :: l,0,_,v=>by
  obtain ⟨ch,pt,pr,un,ad,ph,cb⟩:=a
  rfl
 | a :: l,k+1,hk,v=>by
  have ih:=vs_ph l k (by simpa using hk) v
  obtain ⟨ch,pt,pr,un,ad,ph,cb⟩:=a;rw [show (k+1)*7+5=(k*7+5)+7 by omega]
  show _ :: _ :: _ :: _ :: _ :: _ :: _ :: (shX.vs l).set (k*7+5) (.int .i64 v)=_
  rw [ih]
  rfl
theorem q0ix (X:List Fx) (p:Nat→Int) (x:Nat) (hx:x<X.length) (v:Int):(shX.vs (setPh X p)).set (x*7+5) (.int .i64 v)=shX.vs (setPh X (fun k=>if k=x then v else p k)):=by
 have hx2:x<(setPh X p).length:=by rw [q0ht];exact hx
 rw [vs_ph (setPh X p) x hx2 v,q0hr X p x hx2 hx];exact congrArg shX.vs (q0hv X p x hx v)
theorem vs_at5 (X:List Fx) (p:Nat→Int) (x:Nat) (hx:x<X.length):(shX.vs (setPh X p))[x*7+5]? = some (.int .i64 (p x)):=by
 have hx2:x<(setPh X p).length:=by rw [q0ht];exact hx
 have h:=shX.vs_at (setPh X p) x hx2 5 d_
 rw [q0hr X p x hx2 hx] at h;exact h
theorem q0i3 {u:List Nat} {q:Nat} (hq:q<u.length) (k:Nat):k ∈ u.take (q+1)↔k=u[q]∨k ∈ u.take q:=by
 rw [List.take_succ_eq_append_getElem hq,List.mem_append,List.mem_singleton];exact Or.comm
theorem q0hq (X:List Fx) (ph:Nat→Int) (i:Nat):wN P (setPh X ph) i=wN P X i:=by
 unfold wN wattV;rw [List.getD_eq_getElem?_getD,List.getD_eq_getElem?_getD]
 rcases Nat.lt_or_ge i X.length with h | h
 ·rw [List.getElem?_eq_getElem h,List.getElem?_eq_getElem (by rw [q0ht];exact h),Option.getD_some,Option.getD_some,q0hr X ph i (by rw [q0ht];exact h) h]
 ·rw [List.getElem?_eq_none h,List.getElem?_eq_none (by rw [q0ht];exact h)]
theorem q0en (k n:Nat) (h:k<n):(encN (List.range k) ++ List.replicate (n-k) (Value.int .i64 0)).set k (.int .i64 (k:Int))=encN (List.range (k+1)) ++ List.replicate (n-(k+1)) (Value.int .i64 0):=by
 have hl:(encN (List.range k)).length=k:=by unfold encN;simp
 rw [List.set_append_right _ _ o_,hl,Nat.sub_self,show n-k=(n-(k+1))+1 by omega,List.replicate_succ,List.set_cons_zero,List.range_succ]
 unfold encN;simp
theorem iv_nat (l:List Nat):iv (l.map fun i:Nat=>(i:Int))=encN l:=by
 unfold iv encN;rw [List.map_map]
 rfl
theorem q0io {W:Nat→Int} {U:List (List Nat)} (hp:U.Perm (unitsV X)) (hs:SegS (cmpU W) 0 U.length U):U.Pairwise (ltU W):=by
 rw [List.pairwise_iff_getElem];intro i j hi hj hij;have h:=hs i j U[i] U[j] (Nat.zero_le _) hij hj (List.getElem?_eq_getElem hi) (List.getElem?_eq_getElem hj);rw [q0eh] at h;have mem:∀ q (hq:q<U.length),∃ k,k<X.length∧U[q]=unitAt X k:=fun q hq=>q0il.1 (hp.subset (List.getElem_mem hq))
 unfold ltU
 rcases h with h | ⟨h1,h2⟩
 ·exact Or.inl h
 ·refine Or.inr ⟨h1,?_⟩
  rcases Nat.lt_or_eq_of_le h2 with h3 | h3
  ·exact h3
  ·exfalso
   obtain ⟨a,ha,ea⟩:=mem i hi;obtain ⟨b,hb,eb⟩:=mem j hj;have qa:=q0ih.1 (q0ii ha).1;have qb:=q0ih.1 (q0ii hb).1;rw [ea,eb] at h3;rw [h3] at qa;have hu:U[i]=U[j]:=by rw [ea,eb];exact q0ig (qa.2.symm.trans qb.2)
   have hn:U.Nodup:=(hp.nodup_iff).2 (q0in X);exact absurd hu ((List.pairwise_iff_getElem.1 hn) i j hi hj hij)
theorem q0im:∀ g ∈ unitsV X,g≠[]:=fun g hg=>by
 obtain ⟨i,hi,rfl⟩:=q0il.1 hg;exact List.ne_nil_of_mem (q0ih.2 ⟨hi,rfl⟩)
theorem q0ik:∀ g ∈ unitsV X,∀ i ∈ g,i<X.length:=fun g hg i hi=>by
 obtain ⟨k,hk,rfl⟩:=q0il.1 hg;exact (q0ih.1 hi).1
theorem q0ij:(unitsV X).length≤X.length:=by
 unfold unitsV;rw [q0es]
 have:=ksV_le (uKey X) (List.range X.length)
 rwa [List.length_range] at this
theorem spr_bd {ph:Nat→Int} (hW:WOk P X) (_:X.length≤64) {U:List (List Nat)} (hlt:∀ u ∈ U,∀ i ∈ u,i<X.length) (hm:∀ u ∈ U,u.length≤64) (hU:U.length≤64) :
  ∀ j,j≤U.length→∀ k,k<3→0≤nthS (runU (wN P X) ph (U.take j)).1 k∧nthS (runU (wN P X) ph (U.take j)).1 k≤6710886400:=by
 have key:∀ j,j≤U.length→∀ k,k<3→0≤nthS (runU (wN P X) ph (U.take j)).1 k∧nthS (runU (wN P X) ph (U.take j)).1 k≤j*67108864:=by
  intro j
  induction j with
  | zero =>
   intro _ k _
   have:nthS (runU (wN P X) ph (U.take 0)).1 k=0:=by
    show nthS (0,0,0) k=0
    unfold nthS;split <;> (try split) <;> rfl
   rw [this];omega
  | succ j ih =>
   intro hj k hk;have h:=ih o_ k hk
   rw [List.take_succ_eq_append_getElem o_,q0hl]
   show 0≤nthS (addS _ (lgt _) (uW (wN P X) U[j])) k∧nthS (addS _ (lgt _) (uW (wN P X) U[j])) k≤_
   have hmem:=List.getElem_mem (l:=U) (n:=j) o_
   have hu:=uW_bd (W:=wN P X) (B:=1048576) o_ (l:=U[j]) (fun i hi=>q0iy hW i (hlt _ hmem i hi))
   have hl:=hm _ hmem;rw [q0fy _ _ _ k (lgt_lt _) hk]
   split <;> omega
 intro j hj k hk
 have:=key j hj k hk
 omega
end Go.Proofs.YtabhjdmmfdfpeaaGreatDoor
