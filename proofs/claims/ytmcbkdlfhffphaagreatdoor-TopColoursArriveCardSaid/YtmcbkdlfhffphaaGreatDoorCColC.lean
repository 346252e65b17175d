/- Lemmas. -/
import Derived.Test.YtmcbkdlfhffphaaGreatDoorCColB
import Derived.Test.YtmcbkdlfhffphaaGreatDoorCProL
namespace Go.Proofs.YtmcbkdlfhffphaaGreatDoor
set_option maxHeartbeats 32000000
open _root_.Go.Proofs.Tryz

section
open Go.RowKit
theorem q0d8 {P:Program} {w:World} {ops:Array Oper} {o:Oper} {a:Act} {K:Act→World→Prop} {Q:Exit→Act→World→Prop} {E:Prop} (hgd:o.guard=none) (s x:Operand) (t:TypeId)
  (ho:o.op=.call { callee:=.builtin .append,args:=#[s,x],argTypes:=#[t,t] })
  (base:Nat) (e:TypeId) (z:Value) (size bytes:Nat) (ht:P.underlying t=some (.slice e)) (hinfo:(P.info? e).map (fun i=>(i.zero,i.size,i.bytes))=some (some z,size,bytes)) (hzs:z.cells.size=size) (hsz:0<size)
  (v:Value) (n:Nat) (xs:List Value) (hs:a.eval s=v) (hown:w.ownsRow base e size v n xs)
  (cs:List Value) (t2:TypeId) (b2 c:Nat) (hx:a.eval x=.slice (some ⟨b2,0,none⟩) 1 c) (hb2:b2=w.heap.size) (hl:cs.length=size) (h1:∀ u ∈ cs,u.oneCell' = true)
  (h63:n+1≤maxLen) (hbytes:(n+1)*bytes≤140737488355328) (hbase:base≤w.heap.size)
  (h:∀ g cap w',w'.ownsRow base e size (.slice (some ⟨g,0,none⟩) (n+1) cap) (n+1) (xs ++ cs)→w.grownBy w' v.ownBlock→(v.ownBlock=some g∨g=w.heap.size+1)→K (a.put o.dst (.slice (some ⟨g,0,none⟩) (n+1) cap)) w') :
  if Region.wanted o (yielded ops a.tmps)=true then Oper.wp P o a (w.alloc (.cells cs.toArray t2)) K Q else E:=by
 obtain ⟨i,hi,hz,hsize,hby⟩:=info_parts hinfo;subst hb2;refine step_append_lies (w:=w.alloc (.cells cs.toArray t2)) hgd s x t ho base e i z size bytes ht hi hz hsize hby hzs hsz v n xs hs (hown.alloc _) ⟨w.heap.size,0,none⟩ 1 c cs hx (by omega) (q2g w cs t2) h1 (by omega) h63 hbytes (by simp;omega) _ rfl ?_
 intro g cap w' hown' hg hgx _;exact h g cap w' hown' ((World.grownBy_alloc w _ _).trans hg) (hgx.imp id (fun q=>by rw [q,World.size_alloc]))
theorem q0c4 (a b c:Int) (w:World):(Op.equalIn 10000 53 (.agg #[.int .i64 a,.int .i64 b,.int .i64 c]) (.agg #[.int .i64 a,.int .i64 b,.int .i64 c])).run prog w=.ok true w:=by
 obtain ⟨i,hi⟩:=Option.isSome_iff_exists.1 (show (prog.info? 3).isSome=true by kernel_rfl)
 have p0:∀ (x y z:Int) w,(part 3 #[.int .i64 x,.int .i64 y,.int .i64 z] 0).run prog w=.ok (.int .i64 x) w:=fun x y z w=>by kernel_rfl
 have p1:∀ (x y z:Int) w,(part 3 #[.int .i64 x,.int .i64 y,.int .i64 z] 1).run prog w=.ok (.int .i64 y) w:=fun x y z w=>by kernel_rfl
 have p2:∀ (x y z:Int) w,(part 3 #[.int .i64 x,.int .i64 y,.int .i64 z] 2).run prog w=.ok (.int .i64 z) w:=fun x y z w=>by kernel_rfl
 have hu:=underlying3;show (Op.equalIn (9999+1) 53 _ _).run prog w=_
 rw [run_equalIn_array w 9999 _ _ underlying53 hi,show prog.cellsOf 3=1 by kernel_rfl]
 have e:∀ (d:Nat) (x y:Int) w,(Op.equalIn (d+1) 3 (.int .i64 x) (.int .i64 y)).run prog w=.ok (x == y) w:=fun d x y w=>by
  simp [Op.equalIn,run_underlying hu]
 have e9:∀ (x y:Int) w,(Op.equalIn 9999 3 (.int .i64 x) (.int .i64 y)).run prog w=.ok (x == y) w:=fun x y w=>e 9998 x y w
 rw [show List.range 3=[0,1,2] from rfl]
 generalize hd:9999=d at *;clear e hd hi hu;simp [Op.eqItems,Sem.run_bind,p0,p1,p2,e9,Result.andThen]
theorem q0bj {w w':World} {P:Nat} {row:Option Nat} {vs:List Value} (h:Cells w P vs) (hg:w.grownBy w' row) (hne:∀ r,row=some r→P≠r):Cells w' P vs:=by
 have hb:=hg.block P h.1 (fun e=>hne P e.symm rfl)
 exact ⟨Nat.lt_of_lt_of_le h.1 hg.size,fun j u hu=>⟨(World.cell?_of_block hb).trans (h.2 j u hu).1,(q9p hb).trans (h.2 j u hu).2⟩⟩
theorem q0ck {w:World} {G c B:Nat} (hG:Cells w G (shF.vs (lampFs 3))) (hB:Cells w B [.string lampN,.int .i64 6,.int .i64 0,.slice (some ⟨G,0,none⟩) 3 c]):InPs w (some ⟨B,0,none⟩) 1 (q0ce 3 6 G c):=by
 refine ⟨In_of_cells (S:=shPr) (l:=(q0ce 3 6 G c).map Prod.fst) hB,fun x hx=>?_⟩
 unfold q0ce at hx
 rcases List.mem_cons.1 hx with rfl | hx
 ·refine ⟨lampFs 3,⟨In_of_cells (S:=shF) (l:=lampFs 3) hG,rfl,fun i h h'=>?_⟩,(by show (3:Nat)≤9223372036854775806;decide),fun i h h'=>?_⟩
  ·have:i<3:=h
   match i,this with
   | 0,_=>exact ⟨rfl,Sh.In.nil _ _⟩
   | 1,_=>exact ⟨rfl,Sh.In.nil _ _⟩
   | 2,_=>exact ⟨rfl,Sh.In.nil _ _⟩
  ·have:i<3:=h
   match i,this with
   | 0,_=>exact ⟨Sh.In.nil _ _,⟨Nat.le_refl _,(by show (0:Nat)≤9223372036854775807;decide)⟩,fun x h=>by cases h⟩
   | 1,_=>exact ⟨Sh.In.nil _ _,⟨Nat.le_refl _,(by show (0:Nat)≤9223372036854775807;decide)⟩,fun x h=>by cases h⟩
   | 2,_=>exact ⟨Sh.In.nil _ _,⟨Nat.le_refl _,(by show (0:Nat)≤9223372036854775807;decide)⟩,fun x h=>by cases h⟩
 ·cases hx
theorem q0cl {w:World} {G c B:Nat} (hG:Cells w G (shF.vs (lampFs 4))) (hB:Cells w B [.string lampN,.int .i64 8,.int .i64 0,.slice (some ⟨G,0,none⟩) 4 c]):InPs w (some ⟨B,0,none⟩) 1 (q0ce 4 8 G c):=by
 refine ⟨In_of_cells (S:=shPr) (l:=(q0ce 4 8 G c).map Prod.fst) hB,fun x hx=>?_⟩
 unfold q0ce at hx
 rcases List.mem_cons.1 hx with rfl | hx
 ·refine ⟨lampFs 4,⟨In_of_cells (S:=shF) (l:=lampFs 4) hG,rfl,fun i h h'=>?_⟩,(by show (4:Nat)≤9223372036854775806;decide),fun i h h'=>?_⟩
  ·have:i<4:=h
   match i,this with
   | 0,_=>exact ⟨rfl,Sh.In.nil _ _⟩
   | 1,_=>exact ⟨rfl,Sh.In.nil _ _⟩
   | 2,_=>exact ⟨rfl,Sh.In.nil _ _⟩
   | 3,_=>exact ⟨rfl,Sh.In.nil _ _⟩
  ·have:i<4:=h
   match i,this with
   | 0,_=>exact ⟨Sh.In.nil _ _,⟨Nat.le_refl _,(by show (0:Nat)≤9223372036854775807;decide)⟩,fun x h=>by cases h⟩
   | 1,_=>exact ⟨Sh.In.nil _ _,⟨Nat.le_refl _,(by show (0:Nat)≤9223372036854775807;decide)⟩,fun x h=>by cases h⟩
   | 2,_=>exact ⟨Sh.In.nil _ _,⟨Nat.le_refl _,(by show (0:Nat)≤9223372036854775807;decide)⟩,fun x h=>by cases h⟩
   | 3,_=>exact ⟨Sh.In.nil _ _,⟨Nat.le_refl _,(by show (0:Nat)≤9223372036854775807;decide)⟩,fun x h=>by cases h⟩
 ·cases hx
theorem q0cf (j:Nat) (hj:j<4) {v:Int} (hv:0≤v∧v≤65535) (w:World) :
  Calls prog 18 #[(lampF j).val,.slice none 0 0,.int .i64 v] w fun e w'=>e=.returned (.tuple #[.int .i64 v,.int .i64 0])∧Below w.heap.size w w':=by
 have h:=q0cv (lampF j) [] none 0 0 [] [] v w ⟨Sh.In.nil _ _,⟨Nat.le_refl _,(by show (0:Nat)≤9223372036854775807;decide)⟩,fun x h=>by cases h⟩ ⟨Sh.In.nil _ _,rfl,fun i h _=>absurd h (Nat.not_lt_zero _)⟩ (fun h hh=>by cases hh) (by decide) (fun h hh=>by cases hh)
 rw [(q0cg j hj hv).1,(q0cg j hj hv).2] at h;exact h
theorem q0ct {w:World} (l:List Int) (h100:l.length≤100):(w.alloc (.cells (iv l).toArray 3)).ownsRow w.heap.size 3 1 (.slice (some ⟨w.heap.size,0,none⟩) l.length l.length) l.length (iv l):=by
 have h9:(iv l).length=l.length:=by simp [iv]
 have h8:(iv l).take (l.length*1)=iv l:=by rw [Nat.mul_one,← h9];exact List.take_length
 exact ⟨by rw [h9,Nat.mul_one],.inr ⟨w.heap.size,l.length,(iv l).toArray,rfl,Nat.le_refl _,heap_alloc_last w _,Nat.le_refl _,(by unfold maxLen;omega),by simp [iv],h8⟩⟩
theorem q0cu {w w':World} {base:Nat} {e:TypeId} {z:Nat} {g n m c:Nat} {xs:List Value} (h:w.ownsRow base e z (.slice (some ⟨g,0,none⟩) m c) n xs) (hb:w'.heap[g]? = w.heap[g]?):w'.ownsRow base e z (.slice (some ⟨g,0,none⟩) m c) n xs:=by
 refine ⟨h.1,h.2.imp id fun ⟨g',cap,cur,hv,hg,hc,r⟩=>⟨g',cap,cur,hv,hg,?_,r⟩⟩
 injection hv with e1
 injection e1 with e1
 injection e1 with e1
 subst e1;exact hb.trans hc
theorem own_ne {w:World} {base:Nat} {e:TypeId} {z:Nat} {g n m c:Nat} {xs:List Value} (h:w.ownsRow base e z (.slice (some ⟨g,0,none⟩) m c) n xs) (P j:Nat) (u:Value) (hP:P≠g):(w.setCell ⟨P,j,none⟩ u).ownsRow base e z (.slice (some ⟨g,0,none⟩) m c) n xs:=by
 refine ⟨h.1,h.2.imp id fun ⟨g',cap,cur,hv,hg,hc,r⟩=>⟨g',cap,cur,hv,hg,?_,r⟩⟩
 injection hv with e1
 injection e1 with e1
 injection e1 with e1
 subst e1;exact RowAt.far (B:=g) hc j u hP
set_option maxRecDepth 100000 in
theorem q0da (w:World) (r g b:Int) (hrr:0≤r∧r≤65535) (hgg:0≤g∧g≤65535) (hbb:0≤b∧b≤65535) (white:Bool) (ht:Tab w) (hr:Rng w) :
  Calls prog 4 #[.agg #[.int .u16 r,.int .u16 g,.int .u16 b],.bool white] w fun e w'=>e=.returned (.bool true)∧Below w.heap.size w w':=by
 have HLamp:=hj_ (fun w ht hr=>q029 w ht hr)
 have HRig:=hj_ (fun w=>q0d2 w)
 have HT:=hj_ ht;have HRn:=hj_ hr;have HRg:=hj_ (And.intro hrr (And.intro hgg hbb));clear ht hr;obtain ⟨W,hW⟩:∃ W,W=(w.alloc (.cells #[.int .u16 r,.int .u16 g,.int .u16 b] 47)):=⟨_,rfl⟩;obtain ⟨hB0,hK0⟩:=box1 #[.int .u16 r,.int .u16 g,.int .u16 b] 47 w W hW;have hK:∀ w',Below W.heap.size W w'→w'.cell? ⟨w.heap.size,0,none⟩=some (.int .u16 r)∧w'.cell? ⟨w.heap.size,1,none⟩=some (.int .u16 g)∧w'.cell? ⟨w.heap.size,2,none⟩=some (.int .u16 b):=fun w' h=>⟨(hK0 w' h) 0 _ rfl,(hK0 w' h) 1 _ rfl,(hK0 w' h) 2 _ rfl⟩
 have HK:=hj_ hK;have HW:=hj_ hW;have HB0:=hj_ hB0;have hB:=Below.refl W.heap.size W;obtain ⟨c0,c1,c2⟩:=hK W hB;clear hW hB0 hK hK0;replace HT:=hj_ (HT.out.below HB0.out);replace HRn:=hj_ (HRn.out.below HB0.out);have r0:IntKind.i64.wrap r=r:=IntWalk.i64_in _ (by omega)
 have r1:IntKind.i64.wrap g=g:=IntWalk.i64_in _ (by omega)
 have r2:IntKind.i64.wrap b=b:=IntWalk.i64_in _ (by omega)
 clear hrr hgg hbb
 go_enter func4,ntmps4
 go_wp2_with fail;rw [← HW.out];refine up_ (HLamp.out _ (HT.out.below hB) (HRn.out.below hB)) hB ?_;clear hB;intro wk hB;obtain ⟨c0,c1,c2⟩:=HK.out _ hB;clear c0 c1 c2;go_wp2_with fail;refine (HRig.out _).mono ?_;rintro e w1 ⟨G,c,B1,B2,rfl,hG,hB1,hB2,hc,hle,hne,hb⟩;have hB1w:=ht_ hB hb;obtain ⟨W2,hW2⟩:∃ W2,W2=(w1.alloc (.cells #[.slice none 0 0,.slice (some ⟨B1,0,none⟩) 1 1,.slice (some ⟨B2,0,none⟩) 1 1] 26)).alloc (.cells #[.int .i64 3,.int .i64 4,.int .i64 5] 3):=⟨_,rfl⟩;have hW2s:W2.heap.size=w1.heap.size+1+1:=by rw [hW2];simp
 have hb2:Below w1.heap.size w1 W2:=by rw [hW2];exact ((br_).alloc (Nat.le_refl _) _).alloc (by simp) _
 have HR2:=hj_ (show Cells W2 w1.heap.size [.slice none 0 0,.slice (some ⟨B1,0,none⟩) 1 1,.slice (some ⟨B2,0,none⟩) 1 1] by
  rw [hW2];exact (Cells.fresh w1 [.slice none 0 0,.slice (some ⟨B1,0,none⟩) 1 1,.slice (some ⟨B2,0,none⟩) 1 1] _).below (B:=w1.heap.size+1) ((br_).alloc (by simp) _) (by omega))
 have HA2:=hj_ (show W2.ownsRow (w1.heap.size+1) 3 1 (.slice (some ⟨w1.heap.size+1,0,none⟩) 3 3) 3 (iv [3,4,5]) by
  rw [hW2]
  have:=q0ct (w:=w1.alloc (.cells #[.slice none 0 0,.slice (some ⟨B1,0,none⟩) 1 1,.slice (some ⟨B2,0,none⟩) 1 1] 26)) [3,4,5] (by decide)
  rw [World.size_alloc] at this;exact this)
 have HG2:=hj_ (qfq hG hb2);have HB12:=hj_ (hB1.below hb2 hB1.1);have HB22:=hj_ (hB2.below hb2 hB2.1);have HBW:=hj_ (ht_ hB1w hb2);have hgl:=(hG.lt _ rfl).2;have HNe:=hj_ (show (G≠B1∧G≠B2∧B1≠B2)∧(G<w1.heap.size∧B1<w1.heap.size∧B2<w1.heap.size)∧W.heap.size≤B1∧W.heap.size≤G∧W.heap.size≤w1.heap.size from ⟨hne,⟨hgl,hB1.1,hB2.1⟩,Nat.le_trans hB.size hle.2.1,Nat.le_trans hB.size hle.1,hB1w.size⟩)
 have HC:=hj_ hc;have HW2:=hj_ hW2;have HS2:=hj_ hW2s;clear hW2 hb2 hW2s hB1w hG hB1 hB2 hc hle hne hb hB hgl
 go_upto_region 5 with fail
 rw [← HW2.out];generalize w1.heap.size=R at *
 cases white with
 | false =>
  have HPL:=hj_ (q0ck (q023 HG2.out) HB12.out);have HBc:=hj_ HB12.out;have HGc:=hj_ (q023 HG2.out);have HX:=hj_ (In_of_cells (S:=shX) (l:=lampX) HB22.out);have HA:=hj_ (show Is W2 (some ⟨R+1,0,none⟩) 3 [3,4,5] from ⟨rfl,Sl.of_own HA2.out⟩)
  have HCa:=hj_ (qft HA2.out);clear HG2 HB12 HB22 HA2
  go_upto_region 9 with fail
  obtain ⟨c0,c1,c2⟩:=HK.out _ HBW.out;obtain ⟨W10,hW10⟩:∃ W10,W10=W2.alloc (.cells #[.int .i64 r,.int .i64 g,.int .i64 b] 53):=⟨_,rfl⟩;have hb10:Below W2.heap.size W2 W10:=by rw [hW10];exact (br_).alloc (Nat.le_refl _) _
  have HQ10:=hj_ (show Cells W10 W2.heap.size [.int .i64 r,.int .i64 g,.int .i64 b] by rw [hW10];exact Cells.fresh W2 [.int .i64 r,.int .i64 g,.int .i64 b] _)
  have HV10:=hj_ hb10;have HW10:=hj_ hW10;clear hW10 hb10
  go_upto_region 10 with fail
  rw [← HW10.out];clear c0 c1 c2 r0 r1 r2;obtain ⟨wh,hwh⟩:∃ wh,wh=cowV [3,4,5] r g b:=⟨_,rfl⟩;have hwe:wh=0:=by rw [hwh];unfold cowV;rw [if_neg (by decide)]
  obtain ⟨x,hx⟩:∃ x,x=r-wh:=⟨_,rfl⟩;obtain ⟨y,hy⟩:∃ y,y=g-wh:=⟨_,rfl⟩;obtain ⟨z,hz⟩:∃ z,z=b-wh:=⟨_,rfl⟩;have hmap:([3,4,5]:List Int).map (colV r g b wh)=[x,y,z]:=by rw [hx,hy,hz];rfl
  have hmx:=fun (w':World) (h:Is w' (some ⟨R+1,0,none⟩) 3 [3,4,5])=>q0bo (some ⟨R+1,0,none⟩) 3 3 [3,4,5] r g b w' h HCa.out.1 (by decide) (by decide) (by decide) (by decide) (by decide) (by decide) HRg.out.1 HRg.out.2.1 HRg.out.2.2
  simp only [← hwh,hmap] at hmx;have HMx:=hj_ hmx;have hbx:0≤x∧x≤65535:=by have:=HRg.out;omega
  have hby:0≤y∧y≤65535:=by have:=HRg.out;omega
  have hbz:0≤z∧z≤65535:=by have:=HRg.out;omega
  have HEx:=hj_ (show min x 65535=r∧min y 65535=g∧min z 65535=b from by have:=HRg.out;omega)
  have HBd:=hj_ (show ∀ t ∈ [x,y,z],0≤t∧t≤65535 from fun t ht=>by
   simp only [List.mem_cons,List.not_mem_nil,or_false] at ht
   rcases ht with rfl | rfl | rfl <;> assumption)
  have HU0:=hj_ (q0bu G c hbx hby hbz);have HL0:=hj_ (show ∀ w',Calls prog 18 #[.agg #[.int .i64 3,.int .i64 16,.int .i64 0,.int .i64 1,.int .i64 0,.int .i64 0,.int .i64 0,.int .i64 65535,.bool false,.slice none 0 0],.slice none 0 0,.int .i64 x] w' fun e w''=>e=.returned (.tuple #[.int .i64 x,.int .i64 0])∧Below w'.heap.size w' w'' from fun w'=>q0cf 0 (by decide) hbx w')
  have HU1:=hj_ (q0bv G c hbx hby hbz);have HL1:=hj_ (show ∀ w',Calls prog 18 #[.agg #[.int .i64 4,.int .i64 16,.int .i64 2,.int .i64 3,.int .i64 0,.int .i64 0,.int .i64 0,.int .i64 65535,.bool false,.slice none 0 0],.slice none 0 0,.int .i64 y] w' fun e w''=>e=.returned (.tuple #[.int .i64 y,.int .i64 0])∧Below w'.heap.size w' w'' from fun w'=>q0cf 1 (by decide) hby w')
  have HU2:=hj_ (q0bw G c hbx hby hbz);have HL2:=hj_ (show ∀ w',Calls prog 18 #[.agg #[.int .i64 5,.int .i64 16,.int .i64 4,.int .i64 5,.int .i64 0,.int .i64 0,.int .i64 0,.int .i64 65535,.bool false,.slice none 0 0],.slice none 0 0,.int .i64 z] w' fun e w''=>e=.returned (.tuple #[.int .i64 z,.int .i64 0])∧Below w'.heap.size w' w'' from fun w'=>q0cf 2 (by decide) hbz w')
  have HGv:=hj_ (q00r (q0ci G c) (q0bq hbx hby hbz));have HFrm:=hj_ (fun (Ao:Option Addr) (co:Nat) (wk:World) hp hx (ha:shAm.In wk Ao 3 (colA3 x y z)) ht hr=>qtn none 0 0 [] [] (some ⟨B1,0,none⟩) 1 1 (q0ce 3 6 G c) (some ⟨B2,0,none⟩) 1 1 lampX Ao 3 co (colA3 x y z) wk ⟨Sh.In.nil _ _,rfl,fun i h=>absurd h (Nat.not_lt_zero _)⟩ (fun h hh=>by cases hh) (by decide) hp (by decide) hx (by decide) (by decide) (fun x hx=>by
   unfold lampX at hx
   rcases List.mem_cons.1 hx with rfl | hx
   ·decide
   ·cases hx) ha (by decide) (fun a h=>Nat.le_trans (q0bs hbx hby hbz a h) (by decide)) ht hr)
  clear hx hy hz hmap hmx hwh hwe hbx hby hbz;have q0:=HQ10.out.at_ (j:=0) rfl
  have q1:=HQ10.out.at_ (j:=1) rfl
  have q2:=HQ10.out.at_ (j:=2) rfl
  go_wp2_with fail;refine (HMx.out _ (HA.out.below HV10.out)).mono ?_;rintro e w11 ⟨v',rfl,hown,hb⟩;obtain ⟨Am,cm,rfl⟩:=qfu hown;have HLv:=hj_ (show Is w11 Am 3 [x,y,z] from ⟨rfl,Sl.of_own hown⟩)
  obtain ⟨gm,om,em,hgm,-⟩:=HLv.out.at1 (k:=0) (by simp)
  subst em;have HGm:=hj_ hgm;have HV11:=hj_ (ht_ HV10.out hb);have HQ11:=hj_ (HQ10.out.below hb HQ10.out.1);clear hown hb q0 q1 q2 HMx hgm HQ10;go_wp2_with fail
  go_loopw [10,73] (fun ov jv wr=>∃ k:Nat,k≤3∧jv=.int .i64 k∧wr.ownsRow w11.heap.size 62 3 ov k (shAm.vs ((colA3 x y z).take k))∧Below w11.heap.size w11 wr) (fun _ jv _=>3-(intOf jv).toNat)
  case atStart=>exact ⟨0,Nat.zero_le _,rfl,World.ownsRow_nil _ _ _ _,br_⟩
  case round =>
   obtain ⟨k,hk,rfl,hown,hB⟩:=hrel;obtain ⟨Ao,co,rfl⟩:=qfu hown;have HB:=hj_ hB;have HVr:=hj_ (ht_ HV11.out hB)
   rename World=>V12
   obtain rfl | rfl | rfl | rfl:k=0∨k=1∨k=2∨k=3:=by omega
   ·have p0:V12.cell? ⟨R+1,0,none⟩=some (.int .i64 3):=by
     obtain ⟨b1,o1,q1,hq1,p⟩:=HA.out.at1 (k:=0) (by decide)
     injection q1 with q1;injection q1 with q1 q3;subst q1 q3
     rw [Nat.zero_add] at p;exact (HVr.out.cell (p:=⟨R+1,0,none⟩) hq1).trans p
    have p1:V12.cell? ⟨gm,om,none⟩=some (.int .i64 x):=by
     obtain ⟨b1,o1,q1,hq1,p⟩:=HLv.out.at1 (k:=0) (by simp)
     injection q1 with q1;injection q1 with q1 q3;subst q1 q3
     exact (hB.cell (p:=⟨gm,om,none⟩) hq1).trans p
    have hz1:R+1<V12.heap.size:=by
     obtain ⟨b1,o1,q1,hq1,-⟩:=HA.out.at1 (k:=0) (by decide)
     injection q1 with q1;injection q1 with q1 q3;subst q1 q3
     exact Nat.lt_of_lt_of_le hq1 HVr.out.size
    have hz2:gm<V12.heap.size:=Nat.lt_of_lt_of_le HGm.out hB.size;have HO:=hj_ hown;clear hown hB;simp only [Int.cast_ofNat_Int];go_wp2_with fail;refine (qrj (x:=x) (by have:=HBd.out x (by simp);omega) (by have:=HBd.out x (by simp);omega) V12).mono ?_
    rintro e w12 ⟨rfl,hb⟩;have hown:=qfq HO.out hb;have HB2:=hj_ (ht_ HB.out hb);have hz:=HB2.out.size;generalize hT:sR (x:Rat)=T at *;have HTt:=hj_ hT;clear hb p0 p1 hz1 hz2 hT;go_wp2_with (at_builtin;refine q003 rfl _ _ _ rfl w11.heap.size _ _ 3 32 underlying56 infoAm rfl (by omega) _ 0 (shAm.vs ((colA3 x y z).take 0)) rfl hown [.int .i64 1,.int .i64 3,.string T] _ _ _ rfl (by first | rfl | simp) rfl (am_one _ _ _) (by unfold maxLen;omega) (by omega) hz ?_;intro g1 cap w1' hown1 hg1;have HO1:=hj_ hown1;have HG1:=hj_ hg1;clear hown1 hg1)
    go_roundw
    case rel=>exact ⟨1,by omega,by go_num,by rw [← HTt.out] at HO1;exact HO1.out,q1a HB2.out (Nat.le_refl _) hown HG1.out⟩
    case measure=>simp [intOf]
   ·have p0:V12.cell? ⟨R+1,1,none⟩=some (.int .i64 4):=by
     obtain ⟨b1,o1,q1,hq1,p⟩:=HA.out.at1 (k:=1) (by decide)
     injection q1 with q1;injection q1 with q1 q3;subst q1 q3
     rw [Nat.zero_add] at p;exact (HVr.out.cell (p:=⟨R+1,1,none⟩) hq1).trans p
    have p1:V12.cell? ⟨gm,om+1,none⟩=some (.int .i64 y):=by
     obtain ⟨b1,o1,q1,hq1,p⟩:=HLv.out.at1 (k:=1) (by simp)
     injection q1 with q1;injection q1 with q1 q3;subst q1 q3
     exact (hB.cell (p:=⟨gm,om+1,none⟩) hq1).trans p
    have hz1:R+1<V12.heap.size:=by
     obtain ⟨b1,o1,q1,hq1,-⟩:=HA.out.at1 (k:=0) (by decide)
     injection q1 with q1;injection q1 with q1 q3;subst q1 q3
     exact Nat.lt_of_lt_of_le hq1 HVr.out.size
    have hz2:gm<V12.heap.size:=Nat.lt_of_lt_of_le HGm.out hB.size;have HO:=hj_ hown;clear hown hB;simp only [Int.cast_ofNat_Int];go_wp2_with fail;refine (qrj (x:=y) (by have:=HBd.out y (by simp);omega) (by have:=HBd.out y (by simp);omega) V12).mono ?_
    rintro e w12 ⟨rfl,hb⟩;have hown:=qfq HO.out hb;have HB2:=hj_ (ht_ HB.out hb);have hz:=HB2.out.size;generalize hT:sR (y:Rat)=T at *;have HTt:=hj_ hT;clear hb p0 p1 hz1 hz2 hT;go_wp2_with (at_builtin;refine q003 rfl _ _ _ rfl w11.heap.size _ _ 3 32 underlying56 infoAm rfl (by omega) _ 1 (shAm.vs ((colA3 x y z).take 1)) rfl hown [.int .i64 1,.int .i64 4,.string T] _ _ _ rfl (by first | rfl | simp) rfl (am_one _ _ _) (by unfold maxLen;omega) (by omega) hz ?_;intro g1 cap w1' hown1 hg1;have HO1:=hj_ hown1;have HG1:=hj_ hg1;clear hown1 hg1)
    go_roundw
    case rel=>exact ⟨2,by omega,by go_num,by rw [← HTt.out] at HO1;exact HO1.out,q1a HB2.out (Nat.le_refl _) hown HG1.out⟩
    case measure=>simp [intOf]
   ·have p0:V12.cell? ⟨R+1,2,none⟩=some (.int .i64 5):=by
     obtain ⟨b1,o1,q1,hq1,p⟩:=HA.out.at1 (k:=2) (by decide)
     injection q1 with q1;injection q1 with q1 q3;subst q1 q3
     rw [Nat.zero_add] at p;exact (HVr.out.cell (p:=⟨R+1,2,none⟩) hq1).trans p
    have p1:V12.cell? ⟨gm,om+2,none⟩=some (.int .i64 z):=by
     obtain ⟨b1,o1,q1,hq1,p⟩:=HLv.out.at1 (k:=2) (by simp)
     injection q1 with q1;injection q1 with q1 q3;subst q1 q3
     exact (hB.cell (p:=⟨gm,om+2,none⟩) hq1).trans p
    have hz1:R+1<V12.heap.size:=by
     obtain ⟨b1,o1,q1,hq1,-⟩:=HA.out.at1 (k:=0) (by decide)
     injection q1 with q1;injection q1 with q1 q3;subst q1 q3
     exact Nat.lt_of_lt_of_le hq1 HVr.out.size
    have hz2:gm<V12.heap.size:=Nat.lt_of_lt_of_le HGm.out hB.size;have HO:=hj_ hown;clear hown hB;simp only [Int.cast_ofNat_Int];go_wp2_with fail;refine (qrj (x:=z) (by have:=HBd.out z (by simp);omega) (by have:=HBd.out z (by simp);omega) V12).mono ?_
    rintro e w12 ⟨rfl,hb⟩;have hown:=qfq HO.out hb;have HB2:=hj_ (ht_ HB.out hb);have hz:=HB2.out.size;generalize hT:sR (z:Rat)=T at *;have HTt:=hj_ hT;clear hb p0 p1 hz1 hz2 hT;go_wp2_with (at_builtin;refine q003 rfl _ _ _ rfl w11.heap.size _ _ 3 32 underlying56 infoAm rfl (by omega) _ 2 (shAm.vs ((colA3 x y z).take 2)) rfl hown [.int .i64 1,.int .i64 5,.string T] _ _ _ rfl (by first | rfl | simp) rfl (am_one _ _ _) (by unfold maxLen;omega) (by omega) hz ?_;intro g1 cap w1' hown1 hg1;have HO1:=hj_ hown1;have HG1:=hj_ hg1;clear hown1 hg1)
    go_roundw
    case rel=>exact ⟨3,by omega,by go_num,by rw [← HTt.out] at HO1;exact HO1.out,q1a HB2.out (Nat.le_refl _) hown HG1.out⟩
    case measure=>simp [intOf]
   ·have HI:=hj_ (Sh.In.of_own (S:=shAm) (l:=colA3 x y z) hown rfl)
    have hRr:=HR2.out.below HVr.out HR2.out.1;have x0:=hRr.at_ (j:=0) rfl
    have x1:=hRr.at_ (j:=1) rfl
    have x2:=hRr.at_ (j:=2) rfl
    have HBr:=hj_ (ht_ HBW.out HVr.out);clear hown hB hRr;simp only [Int.cast_ofNat_Int];go_wp2_with fail;refine (HFrm.out Ao co _ (HPL.out.below HVr.out) (HX.out.below HVr.out) HI.out (HT.out.below HBr.out) (HRn.out.below HBr.out)).mono ?_;rintro e w13 ⟨rr,rfl,A',c',rfl,ho,hb⟩;rw [HGv.out.1];have HIF:=hj_ (Sh.In.of_own ho rfl);have HV13:=hj_ (ht_ HVr.out hb);have HV11b:=hj_ (ht_ HB.out hb);clear ho hb x0 x1 x2 HFrm;obtain ⟨-,-,fr1,fl1⟩:=HGv.out;have hFs:∀ q ∈ frV [] (q0ce 3 6 G c) lampX (colA3 x y z),q.sl.size≤9223372036854775807:=fun q hq=>by have:=(fr1.2 q hq).2.2;omega
    have HFs:=hj_ (And.intro hFs fl1);have HRaw:=hj_ (fun (at_:Int) (w':World) hp hx (hf:shFm.In w' A' (frV [] (q0ce 3 6 G c) lampX (colA3 x y z)).length (frV [] (q0ce 3 6 G c) lampX (colA3 x y z)))=>q05x none 0 0 [] [] (some ⟨B1,0,none⟩) 1 1 (q0ce 3 6 G c) (some ⟨B2,0,none⟩) 1 1 lampX A' (frV [] (q0ce 3 6 G c) lampX (colA3 x y z)).length c' (frV [] (q0ce 3 6 G c) lampX (colA3 x y z)) 1 at_ w' ⟨Sh.In.nil _ _,rfl,fun i h=>absurd h (Nat.not_lt_zero _)⟩ (fun h hh=>by cases hh) hp (by decide) hx (by decide) (by decide) (fun x hx=>by
     unfold lampX at hx
     rcases List.mem_cons.1 hx with rfl | hx
     ·decide
     ·cases hx) hf (by have:=HFs.out.2;omega) HFs.out.1)
    have hq0:=HRaw.out 3;rw [HU0.out.1,HU0.out.2] at hq0;have HQ0r:=hj_ hq0;have hq1:=HRaw.out 4;rw [HU1.out.1,HU1.out.2] at hq1;have HQ1r:=hj_ hq1;have hq2:=HRaw.out 5;rw [HU2.out.1,HU2.out.2] at hq2;have HQ2r:=hj_ hq2;clear hq0 hq1 hq2 hFs fr1 fl1 HRaw HFs HGv HU0 HU1 HU2;generalize frV [] (q0ce 3 6 G c) lampX (colA3 x y z)=F at *;have hR13:=HR2.out.below HV13.out HR2.out.1;have x0:=hR13.at_ (j:=0) rfl
    have x1:=hR13.at_ (j:=1) rfl
    have x2:=hR13.at_ (j:=2) rfl
    have z3:=(HBc.out.below HV13.out HBc.out.1).at_ (j:=3) rfl
    clear hR13;go_wp2_with fail;clear x0 x1 x2 z3
    go_loopw [14,104] (fun ov jv wr=>∃ k:Nat,k≤3∧jv=.int .i64 k∧wr.ownsRow w13.heap.size 3 1 ov k (iv (([x,y,z]:List Int).take k))∧Below w13.heap.size w13 wr) (fun _ jv _=>3-(intOf jv).toNat)
    case atStart=>exact ⟨0,Nat.zero_le _,rfl,World.ownsRow_nil _ _ _ _,br_⟩
    case round =>
     obtain ⟨k,hk,rfl,hown,hB⟩:=hrel;obtain ⟨Ao2,co2,rfl⟩:=qfu hown;have HB5:=hj_ hB;have HVs:=hj_ (ht_ HV13.out hB)
     rename World=>V14
     obtain rfl | rfl | rfl | rfl:k=0∨k=1∨k=2∨k=3:=by omega
     ·have HO:=hj_ hown
      clear hown;have hGr:=HGc.out.below HVs.out HGc.out.1;have e0:V14.cell? ⟨G,0,none⟩=some (.int .i64 3):=hGr.at_ (j:=0) rfl
      have e1:V14.cell? ⟨G,1,none⟩=some (.int .i64 16):=hGr.at_ (j:=1) rfl
      have e2:V14.cell? ⟨G,2,none⟩=some (.int .i64 0):=hGr.at_ (j:=2) rfl
      have e3:V14.cell? ⟨G,3,none⟩=some (.int .i64 1):=hGr.at_ (j:=3) rfl
      have e4:V14.cell? ⟨G,4,none⟩=some (.int .i64 0):=hGr.at_ (j:=4) rfl
      have e5:V14.cell? ⟨G,5,none⟩=some (.int .i64 0):=hGr.at_ (j:=5) rfl
      have e6:V14.cell? ⟨G,6,none⟩=some (.int .i64 0):=hGr.at_ (j:=6) rfl
      have e7:V14.cell? ⟨G,7,none⟩=some (.int .i64 65535):=hGr.at_ (j:=7) rfl
      have e8:V14.cell? ⟨G,8,none⟩=some (.bool false):=hGr.at_ (j:=8) rfl
      have e9:V14.cell? ⟨G,9,none⟩=some (.slice none 0 0):=hGr.at_ (j:=9) rfl
      obtain ⟨W15,hW15⟩:∃ W15,W15=V14.alloc (.cells #[.int .i64 3,.int .i64 16,.int .i64 0,.int .i64 1,.int .i64 0,.int .i64 0,.int .i64 0,.int .i64 65535,.bool false,.slice none 0 0] 52):=⟨_,rfl⟩;have hb15:Below V14.heap.size V14 W15:=by rw [hW15];exact (br_).alloc (Nat.le_refl _) _
      have HE15:=hj_ (show Cells W15 V14.heap.size [.int .i64 3,.int .i64 16,.int .i64 0,.int .i64 1,.int .i64 0,.int .i64 0,.int .i64 0,.int .i64 65535,.bool false,.slice none 0 0] by rw [hW15];exact Cells.fresh V14 [.int .i64 3,.int .i64 16,.int .i64 0,.int .i64 1,.int .i64 0,.int .i64 0,.int .i64 0,.int .i64 65535,.bool false,.slice none 0 0] _)
      have HV15:=hj_ (ht_ HVs.out hb15);have HB15:=hj_ hb15;have HW15:=hj_ hW15;clear hGr hB hW15 hb15;simp only [Int.cast_ofNat_Int]
      go_upto_region 26 with fail
      rw [← HW15.out];clear e0 e1 e2 e3 e4 e5 e6 e7 e8 e9;have e0:=HE15.out.at_ (j:=0) rfl
      have hRr:=HR2.out.below HV15.out HR2.out.1;have x0:=hRr.at_ (j:=0) rfl
      have x1:=hRr.at_ (j:=1) rfl
      have x2:=hRr.at_ (j:=2) rfl
      clear hRr;go_wp2_with fail;refine (HQ0r.out _ (HPL.out.below HV15.out) (HX.out.below HV15.out) (HIF.out.below (ht_ HB5.out HB15.out))).mono ?_;rintro e w16 ⟨rfl,hb⟩;have hE:=HE15.out.below hb HE15.out.1;have HB16:=hj_ ((ht_ HB5.out HB15.out).trans (hb.mono (ht_ HB5.out HB15.out).size));have HV16:=hj_ (ht_ HV15.out hb);have HO16:=hj_ (qfq (qfq HO.out HB15.out) hb);clear e0 x0 x1 x2;have e0:=hE.at_ (j:=0) rfl
      have e1:=hE.at_ (j:=1) rfl
      have e2:=hE.at_ (j:=2) rfl
      have e3:=hE.at_ (j:=3) rfl
      have e4:=hE.at_ (j:=4) rfl
      have e5:=hE.at_ (j:=5) rfl
      have e6:=hE.at_ (j:=6) rfl
      have e7:=hE.at_ (j:=7) rfl
      have e8:=hE.at_ (j:=8) rfl
      have e9:=hE.at_ (j:=9) rfl
      clear hE hb;go_wp2_with fail;refine (HL0.out _).mono ?_;rintro e w17 ⟨rfl,hb⟩;have hown:=qfq HO16.out hb;have HB17:=hj_ (ht_ HB16.out hb);have hz:=HB17.out.size;clear e0 e1 e2 e3 e4 e5 e6 e7 e8 e9 hb;go_wp2_with (at_builtin;refine q003 rfl _ _ _ rfl w13.heap.size _ _ 1 8 underlying49 infoN rfl (by omega) _ 0 (iv (([x,y,z]:List Int).take 0)) rfl hown [.int .i64 x] _ _ _ rfl (by first | rfl | simp) rfl (qf9 _) (by unfold maxLen;omega) (by omega) hz ?_;intro g1 cap w1' hown1 hg1;have HO1:=hj_ hown1;have HG1:=hj_ hg1;clear hown1 hg1)
      go_roundw
      case rel=>exact ⟨1,by omega,by go_num,HO1.out,q1a HB17.out (Nat.le_refl _) hown HG1.out⟩
      case measure=>simp [intOf]
     ·have HO:=hj_ hown
      clear hown;have hGr:=HGc.out.below HVs.out HGc.out.1;have e0:V14.cell? ⟨G,10,none⟩=some (.int .i64 4):=hGr.at_ (j:=10) rfl
      have e1:V14.cell? ⟨G,11,none⟩=some (.int .i64 16):=hGr.at_ (j:=11) rfl
      have e2:V14.cell? ⟨G,12,none⟩=some (.int .i64 2):=hGr.at_ (j:=12) rfl
      have e3:V14.cell? ⟨G,13,none⟩=some (.int .i64 3):=hGr.at_ (j:=13) rfl
      have e4:V14.cell? ⟨G,14,none⟩=some (.int .i64 0):=hGr.at_ (j:=14) rfl
      have e5:V14.cell? ⟨G,15,none⟩=some (.int .i64 0):=hGr.at_ (j:=15) rfl
      have e6:V14.cell? ⟨G,16,none⟩=some (.int .i64 0):=hGr.at_ (j:=16) rfl
      have e7:V14.cell? ⟨G,17,none⟩=some (.int .i64 65535):=hGr.at_ (j:=17) rfl
      have e8:V14.cell? ⟨G,18,none⟩=some (.bool false):=hGr.at_ (j:=18) rfl
      have e9:V14.cell? ⟨G,19,none⟩=some (.slice none 0 0):=hGr.at_ (j:=19) rfl
      obtain ⟨W15,hW15⟩:∃ W15,W15=V14.alloc (.cells #[.int .i64 4,.int .i64 16,.int .i64 2,.int .i64 3,.int .i64 0,.int .i64 0,.int .i64 0,.int .i64 65535,.bool false,.slice none 0 0] 52):=⟨_,rfl⟩;have hb15:Below V14.heap.size V14 W15:=by rw [hW15];exact (br_).alloc (Nat.le_refl _) _
      have HE15:=hj_ (show Cells W15 V14.heap.size [.int .i64 4,.int .i64 16,.int .i64 2,.int .i64 3,.int .i64 0,.int .i64 0,.int .i64 0,.int .i64 65535,.bool false,.slice none 0 0] by rw [hW15];exact Cells.fresh V14 [.int .i64 4,.int .i64 16,.int .i64 2,.int .i64 3,.int .i64 0,.int .i64 0,.int .i64 0,.int .i64 65535,.bool false,.slice none 0 0] _)
      have HV15:=hj_ (ht_ HVs.out hb15);have HB15:=hj_ hb15;have HW15:=hj_ hW15;clear hGr hB hW15 hb15;simp only [Int.cast_ofNat_Int]
      go_upto_region 26 with fail
      rw [← HW15.out];clear e0 e1 e2 e3 e4 e5 e6 e7 e8 e9;have e0:=HE15.out.at_ (j:=0) rfl
      have hRr:=HR2.out.below HV15.out HR2.out.1;have x0:=hRr.at_ (j:=0) rfl
      have x1:=hRr.at_ (j:=1) rfl
      have x2:=hRr.at_ (j:=2) rfl
      clear hRr;go_wp2_with fail;refine (HQ1r.out _ (HPL.out.below HV15.out) (HX.out.below HV15.out) (HIF.out.below (ht_ HB5.out HB15.out))).mono ?_;rintro e w16 ⟨rfl,hb⟩;have hE:=HE15.out.below hb HE15.out.1;have HB16:=hj_ ((ht_ HB5.out HB15.out).trans (hb.mono (ht_ HB5.out HB15.out).size));have HV16:=hj_ (ht_ HV15.out hb);have HO16:=hj_ (qfq (qfq HO.out HB15.out) hb);clear e0 x0 x1 x2;have e0:=hE.at_ (j:=0) rfl
      have e1:=hE.at_ (j:=1) rfl
      have e2:=hE.at_ (j:=2) rfl
      have e3:=hE.at_ (j:=3) rfl
      have e4:=hE.at_ (j:=4) rfl
      have e5:=hE.at_ (j:=5) rfl
      have e6:=hE.at_ (j:=6) rfl
      have e7:=hE.at_ (j:=7) rfl
      have e8:=hE.at_ (j:=8) rfl
      have e9:=hE.at_ (j:=9) rfl
      clear hE hb;go_wp2_with fail;refine (HL1.out _).mono ?_;rintro e w17 ⟨rfl,hb⟩;have hown:=qfq HO16.out hb;have HB17:=hj_ (ht_ HB16.out hb);have hz:=HB17.out.size;clear e0 e1 e2 e3 e4 e5 e6 e7 e8 e9 hb;go_wp2_with (at_builtin;refine q003 rfl _ _ _ rfl w13.heap.size _ _ 1 8 underlying49 infoN rfl (by omega) _ 1 (iv (([x,y,z]:List Int).take 1)) rfl hown [.int .i64 y] _ _ _ rfl (by first | rfl | simp) rfl (qf9 _) (by unfold maxLen;omega) (by omega) hz ?_;intro g1 cap w1' hown1 hg1;have HO1:=hj_ hown1;have HG1:=hj_ hg1;clear hown1 hg1)
      go_roundw
      case rel=>exact ⟨2,by omega,by go_num,HO1.out,q1a HB17.out (Nat.le_refl _) hown HG1.out⟩
      case measure=>simp [intOf]
     ·have HO:=hj_ hown
      clear hown;have hGr:=HGc.out.below HVs.out HGc.out.1;have e0:V14.cell? ⟨G,20,none⟩=some (.int .i64 5):=hGr.at_ (j:=20) rfl
      have e1:V14.cell? ⟨G,21,none⟩=some (.int .i64 16):=hGr.at_ (j:=21) rfl
      have e2:V14.cell? ⟨G,22,none⟩=some (.int .i64 4):=hGr.at_ (j:=22) rfl
      have e3:V14.cell? ⟨G,23,none⟩=some (.int .i64 5):=hGr.at_ (j:=23) rfl
      have e4:V14.cell? ⟨G,24,none⟩=some (.int .i64 0):=hGr.at_ (j:=24) rfl
      have e5:V14.cell? ⟨G,25,none⟩=some (.int .i64 0):=hGr.at_ (j:=25) rfl
      have e6:V14.cell? ⟨G,26,none⟩=some (.int .i64 0):=hGr.at_ (j:=26) rfl
      have e7:V14.cell? ⟨G,27,none⟩=some (.int .i64 65535):=hGr.at_ (j:=27) rfl
      have e8:V14.cell? ⟨G,28,none⟩=some (.bool false):=hGr.at_ (j:=28) rfl
      have e9:V14.cell? ⟨G,29,none⟩=some (.slice none 0 0):=hGr.at_ (j:=29) rfl
      obtain ⟨W15,hW15⟩:∃ W15,W15=V14.alloc (.cells #[.int .i64 5,.int .i64 16,.int .i64 4,.int .i64 5,.int .i64 0,.int .i64 0,.int .i64 0,.int .i64 65535,.bool false,.slice none 0 0] 52):=⟨_,rfl⟩;have hb15:Below V14.heap.size V14 W15:=by rw [hW15];exact (br_).alloc (Nat.le_refl _) _
      have HE15:=hj_ (show Cells W15 V14.heap.size [.int .i64 5,.int .i64 16,.int .i64 4,.int .i64 5,.int .i64 0,.int .i64 0,.int .i64 0,.int .i64 65535,.bool false,.slice none 0 0] by rw [hW15];exact Cells.fresh V14 [.int .i64 5,.int .i64 16,.int .i64 4,.int .i64 5,.int .i64 0,.int .i64 0,.int .i64 0,.int .i64 65535,.bool false,.slice none 0 0] _)
      have HV15:=hj_ (ht_ HVs.out hb15);have HB15:=hj_ hb15;have HW15:=hj_ hW15;clear hGr hB hW15 hb15;simp only [Int.cast_ofNat_Int]
      go_upto_region 26 with fail
      rw [← HW15.out];clear e0 e1 e2 e3 e4 e5 e6 e7 e8 e9;have e0:=HE15.out.at_ (j:=0) rfl
      have hRr:=HR2.out.below HV15.out HR2.out.1;have x0:=hRr.at_ (j:=0) rfl
      have x1:=hRr.at_ (j:=1) rfl
      have x2:=hRr.at_ (j:=2) rfl
      clear hRr;go_wp2_with fail;refine (HQ2r.out _ (HPL.out.below HV15.out) (HX.out.below HV15.out) (HIF.out.below (ht_ HB5.out HB15.out))).mono ?_;rintro e w16 ⟨rfl,hb⟩;have hE:=HE15.out.below hb HE15.out.1;have HB16:=hj_ ((ht_ HB5.out HB15.out).trans (hb.mono (ht_ HB5.out HB15.out).size));have HV16:=hj_ (ht_ HV15.out hb);have HO16:=hj_ (qfq (qfq HO.out HB15.out) hb);clear e0 x0 x1 x2;have e0:=hE.at_ (j:=0) rfl
      have e1:=hE.at_ (j:=1) rfl
      have e2:=hE.at_ (j:=2) rfl
      have e3:=hE.at_ (j:=3) rfl
      have e4:=hE.at_ (j:=4) rfl
      have e5:=hE.at_ (j:=5) rfl
      have e6:=hE.at_ (j:=6) rfl
      have e7:=hE.at_ (j:=7) rfl
      have e8:=hE.at_ (j:=8) rfl
      have e9:=hE.at_ (j:=9) rfl
      clear hE hb;go_wp2_with fail;refine (HL2.out _).mono ?_;rintro e w17 ⟨rfl,hb⟩;have hown:=qfq HO16.out hb;have HB17:=hj_ (ht_ HB16.out hb);have hz:=HB17.out.size;clear e0 e1 e2 e3 e4 e5 e6 e7 e8 e9 hb;go_wp2_with (at_builtin;refine q003 rfl _ _ _ rfl w13.heap.size _ _ 1 8 underlying49 infoN rfl (by omega) _ 2 (iv (([x,y,z]:List Int).take 2)) rfl hown [.int .i64 z] _ _ _ rfl (by first | rfl | simp) rfl (qf9 _) (by unfold maxLen;omega) (by omega) hz ?_;intro g1 cap w1' hown1 hg1;have HO1:=hj_ hown1;have HG1:=hj_ hg1;clear hown1 hg1)
      go_roundw
      case rel=>exact ⟨3,by omega,by go_num,HO1.out,q1a HB17.out (Nat.le_refl _) hown HG1.out⟩
      case measure=>simp [intOf]
     ·have HI2:=hj_ (show Is V14 Ao2 3 [x,y,z] from ⟨rfl,Sl.of_own hown⟩)
      clear hown hB;simp only [Int.cast_ofNat_Int];go_wp2_with fail;refine (q0bm (some ⟨R+1,0,none⟩) 3 Ao2 co2 x y z _ (HA.out.below HVs.out) HCa.out.1 HI2.out HBd.out).mono ?_;rintro e w18 ⟨rfl,hb⟩;rw [HEx.out.1,HEx.out.2.1,HEx.out.2.2];have hz18:=ht_ HVs.out hb;have hz11:=HV13.out.size;have hB18:=(ht_ HV11b.out HB5.out).trans (hb.mono (ht_ HV11b.out HB5.out).size);obtain ⟨W19,hW19⟩:∃ W19,W19=w18.alloc (.cells #[.int .i64 r,.int .i64 g,.int .i64 b] 53):=⟨_,rfl⟩;have hb19:Below w18.heap.size w18 W19:=by rw [hW19];exact (br_).alloc (Nat.le_refl _) _
      have hQ19:Cells W19 w18.heap.size [.int .i64 r,.int .i64 g,.int .i64 b]:=by rw [hW19];exact Cells.fresh w18 [.int .i64 r,.int .i64 g,.int .i64 b] _
      have hQ7:=(HQ11.out.below hB18 HQ11.out.1).below hb19 (HQ11.out.below hB18 HQ11.out.1).1;have hW:=HBW.out.trans ((ht_ hz18 hb19).mono HBW.out.size);have HWB:=hj_ (ht_ HB0.out hW);have HW19:=hj_ hW19;clear hz18 hz11 hB18 hb19 hW19 hW hb
      go_upto_region 33 with fail
      rw [← HW19.out];have e0:=hQ19.at_ (j:=0) rfl
      have e1:=hQ19.at_ (j:=1) rfl
      have e2:=hQ19.at_ (j:=2) rfl
      have x0:=hQ7.at_ (j:=0) rfl
      have x1:=hQ7.at_ (j:=1) rfl
      have x2:=hQ7.at_ (j:=2) rfl
      have heq:=q0c4 r g b W19;clear hQ19 hQ7;go_wp2_with fail;go_ret;exact ⟨rfl,HWB.out⟩
 | true =>
  have hown:=HA2.out;have hsz:R+1≤W2.heap.size:=by have:=HS2.out;omega
  go_upto_region 7 with (at_builtin;refine q003 rfl _ _ _ rfl (R+1) _ _ 1 8 underlying49 infoN rfl (by omega) _ 3 (iv [3,4,5]) rfl hown [.int .i64 6] _ _ _ rfl (by first | rfl | simp) rfl (qf9 _) (by unfold maxLen;omega) (by omega) hsz ?_;intro ga ca w3 hown1 hg1)
  have hb3:Below (R+1) W2 w3:=q1a (br_) hsz hown hg1;have hNe:=HNe.out;have HA3:=hj_ (show w3.ownsRow (R+1) 3 1 (.slice (some ⟨ga,0,none⟩) 4 ca) 4 (iv [3,4,5,6]) from hown1)
  have hga:=(hown1.lt ga rfl).1;have HR3:=hj_ (HR2.out.below hb3 (Nat.lt_succ_self R));have hB13:=HB12.out.below hb3 (by omega)
  have hB23:=HB22.out.below hb3 (by omega)
  have hG3:=q0cu HG2.out (hb3.block G (by omega))
  have hB3:=HBW.out.trans (hb3.mono (by omega))
  obtain ⟨W4,hW4⟩:∃ W4,W4=w3.setCell ⟨B1,1,none⟩ (.int .i64 8):=⟨_,rfl⟩;have HB14:=hj_ (show Cells W4 B1 [.string lampN,.int .i64 8,.int .i64 0,.slice (some ⟨G,0,none⟩) 3 c] by rw [hW4];exact hB13.set 1 (.int .i64 8) (by show 1<4;decide))
  have HB24:=hj_ (show Cells W4 B2 (shX.vs lampX) by rw [hW4];exact hB23.far 1 _ hNe.1.2.2)
  have HG4:=hj_ (show W4.ownsRow wk.heap.size 52 10 (.slice (some ⟨G,0,none⟩) 3 c) 3 (shF.vs (lampFs 3)) by rw [hW4];exact own_ne hG3 _ _ _ (fun e=>hNe.1.1 e.symm))
  have HR4:=hj_ (show Cells W4 R [.slice none 0 0,.slice (some ⟨B1,0,none⟩) 1 1,.slice (some ⟨B2,0,none⟩) 1 1] by rw [hW4];exact HR3.out.far 1 _ (by omega))
  have HA4:=hj_ (show W4.ownsRow (R+1) 3 1 (.slice (some ⟨ga,0,none⟩) 4 ca) 4 (iv [3,4,5,6]) by rw [hW4];exact own_ne HA3.out _ _ _ (by omega))
  have HBW4:=hj_ (show Below W.heap.size W W4 by rw [hW4];exact hB3.setCell (p:=⟨B1,1,none⟩) hNe.2.2.1 _)
  have HGa:=hj_ hga;have HLe:=hj_ (show wk.heap.size≤W4.heap.size from by
   have h1:=(HG4.out.lt G rfl)
   omega)
  have HW4:=hj_ hW4;have x1:=HR3.out.at_ (j:=1) rfl
  have z1:=hB13.at_ (j:=1) rfl
  have f1:=hB13.fr (j:=1) rfl;have l1:=HR3.out.1;have l2:=hB13.1;clear hb3 hown hown1 hg1 hW4 hB13 hB23 hG3 hB3 hsz hNe hga HG2 HB12 HB22 HA2 HA3 HR2 HBW
  go_upto_region 8 with fail
  rw [← HW4.out];clear x1 z1 f1 l1 l2;have x1:=HR4.out.at_ (j:=1) rfl
  have z3:=HB14.out.at_ (j:=3) rfl
  have f3:=HB14.out.fr (j:=3) rfl;have l1:=HR4.out.1;have l2:=HB14.out.1;go_wp2_with fail;refine wp_region_held_drew (S:=fun w'=>w'.cell? ⟨R,1,none⟩=some (.slice (some ⟨B1,0,none⟩) 1 1)) (by kernel_rfl) (by first | exact x1) (fun hHeld=>?_)
  refine wpAnyH_take (i:=0) (oi:=?_) (v:=?_) ?_ (by kernel_rfl) (by kernel_rfl) (by kernel_rfl) ?_ (Or.inl ⟨?_,?_⟩) (by assumption) ?_
  rotate_left 2
  ·(simp only [List.getElem?_toArray,List.getElem?_cons_zero];rfl)
  ·exact fun _ _ _ h=>h
  ·rfl
  ·(intro w hSw;(try dsimp only at hSw);go_simp;try with_reducible rfl)
  simp only [Act.put,List.setIfInBounds_toArray,List.set_cons_zero,List.set_cons_succ];refine wpAnyH_take (i:=1) (oi:=?_) (v:=?_) ?_ (by kernel_rfl) (by kernel_rfl) (by kernel_rfl) ?_ (Or.inl ⟨?_,?_⟩) (by assumption) ?_
  rotate_left 2
  ·(simp only [List.getElem?_toArray,List.getElem?_cons_succ,List.getElem?_cons_zero];rfl)
  ·exact fun _ _ _ h=>h
  ·rfl
  ·(intro w hSw;(try dsimp only at hSw);go_simp;try with_reducible rfl)
  simp only [Act.put,List.setIfInBounds_toArray,List.set_cons_zero,List.set_cons_succ];refine wpAnyH_take (i:=2) (oi:=?_) (v:=?_) ?_ (by kernel_rfl) (by kernel_rfl) (by kernel_rfl) ?_ (Or.inl ⟨?_,?_⟩) (by assumption) ?_
  rotate_left 2
  ·(simp only [List.getElem?_toArray,List.getElem?_cons_succ,List.getElem?_cons_zero];rfl)
  ·exact fun _ _ _ h=>h
  ·rfl
  ·(intro w hSw;(try dsimp only at hSw);go_simp;try with_reducible rfl)
  simp only [Act.put,List.setIfInBounds_toArray,List.set_cons_zero,List.set_cons_succ];refine wpAnyH_take (i:=3) (oi:=?_) (v:=?_) ?_ (by kernel_rfl) (by kernel_rfl) (by kernel_rfl) ?_ (Or.inl ⟨?_,?_⟩) (by assumption) ?_
  rotate_left 2
  ·(simp only [List.getElem?_toArray,List.getElem?_cons_succ,List.getElem?_cons_zero];rfl)
  ·exact fun _ _ _ h=>h
  ·rfl
  ·(intro w hSw;(try dsimp only at hSw);go_simp;try with_reducible rfl)
  simp only [Act.put,List.setIfInBounds_toArray,List.set_cons_zero,List.set_cons_succ];refine wpAnyH_take (i:=4) (oi:=?_) (v:=?_) ?_ (by kernel_rfl) (by kernel_rfl) (by kernel_rfl) ?_ (Or.inl ⟨?_,?_⟩) (by assumption) ?_
  rotate_left 2
  ·(simp only [List.getElem?_toArray,List.getElem?_cons_succ,List.getElem?_cons_zero];rfl)
  ·exact fun _ _ _ h=>h
  ·rfl
  ·(intro w hSw;(try dsimp only at hSw);go_simp;try with_reducible rfl)
  simp only [Act.put,List.setIfInBounds_toArray,List.set_cons_zero,List.set_cons_succ];refine wpAnyH_take (i:=5) (oi:=?_) (v:=?_) ?_ (by kernel_rfl) (by kernel_rfl) (by kernel_rfl) ?_ (Or.inl ⟨?_,?_⟩) (by assumption) ?_
  rotate_left 2
  ·(simp only [List.getElem?_toArray,List.getElem?_cons_succ,List.getElem?_cons_zero];rfl)
  ·exact fun _ _ _ h=>h
  ·rfl
  ·(intro w hSw;(try dsimp only at hSw);go_simp;try with_reducible rfl)
  simp only [Act.put,List.setIfInBounds_toArray,List.set_cons_zero,List.set_cons_succ];refine wpAnyH_take (i:=7) (oi:=?_) (v:=?_) ?_ (by kernel_rfl) (by kernel_rfl) (by kernel_rfl) ?_ (Or.inl ⟨?_,?_⟩) (by assumption) ?_
  rotate_left 2
  ·(simp only [List.getElem?_toArray,List.getElem?_cons_succ,List.getElem?_cons_zero];rfl)
  ·exact fun _ _ _ h=>h
  ·rfl
  ·(intro w hSw;(try dsimp only at hSw);go_simp;try with_reducible rfl)
  simp only [Act.put,List.setIfInBounds_toArray,List.set_cons_zero,List.set_cons_succ];have hbA:Below W4.heap.size W4 (W4.alloc (.cells #[.int .i64 6,.int .i64 16,.int .i64 6,.int .i64 7,.int .i64 0,.int .i64 0,.int .i64 0,.int .i64 65535,.bool false,.slice none 0 0] 52)):=(br_).alloc (Nat.le_refl _) _;have x1a:=(hbA.cell (p:=⟨R,1,none⟩) l1).trans x1;have l2a:¬ B1=W4.heap.size:=by omega
  refine wpAnyH_ready (rs:=[6,8]) (by kernel_rfl) (by simp) ?_
  refine AllReadyH.cons rfl (fun K hK=>?_) (AllReadyH.cons rfl (fun K hK=>?_) AllReadyH.nil)
  ·go_simp
   refine hK.out _ _ (by first | exact x1 | exact x1a) (fun hHeld=>?_)
   clear hK K
   try simp only [Act.put,List.setIfInBounds_toArray,List.set_cons_zero,List.set_cons_succ]
   refine wpAnyH_ready (rs:=[8]) (by kernel_rfl) (by simp) ?_
   refine AllReadyH.cons rfl (fun K hK=>?_) AllReadyH.nil
   go_simp
   refine hK.out _ _ (by first | exact x1 | exact x1a) (fun hHeld=>?_)
   clear hK K
   try simp only [Act.put,List.setIfInBounds_toArray,List.set_cons_zero,List.set_cons_succ]
   refine wpAnyH_ready (rs:=[9]) (by kernel_rfl) (by simp) ?_
   refine AllReadyH.cons rfl (fun K hK=>?_) AllReadyH.nil
   have e9:(W4.alloc (.cells #[.int .i64 6,.int .i64 16,.int .i64 6,.int .i64 7,.int .i64 0,.int .i64 0,.int .i64 0,.int .i64 65535,.bool false,.slice none 0 0] 52)).drew=W4.drew.alloc (.cells #[.int .i64 6,.int .i64 16,.int .i64 6,.int .i64 7,.int .i64 0,.int .i64 0,.int .i64 0,.int .i64 65535,.bool false,.slice none 0 0] 52):=rfl;rw [e9];have hown:=q0cu (w':=W4.drew) HG4.out rfl;have hle8:wk.heap.size≤W4.drew.heap.size:=HLe.out;refine q0d8 rfl (.tmp 40) (.tmp 42) 37 rfl wk.heap.size 52 _ 10 96 underlying37 infoFe rfl (by omega) _ 3 (shF.vs (lampFs 3)) (by simp [Act.eval]) hown [.int .i64 6,.int .i64 16,.int .i64 6,.int .i64 7,.int .i64 0,.int .i64 0,.int .i64 0,.int .i64 65535,.bool false,.slice none 0 0] 52 W4.heap.size 1 (by simp [Act.eval]) rfl rfl (fe_one _ _ _ _ _ _ _ _ _ _ _ _) (by unfold maxLen;omega) (by omega) hle8 ?_
   intro gf cf w5 hown5 hg5 hgx;have hNe:=HNe.out;have hga:=HGa.out;have dW:=(Below.refl W4.heap.size W4).drew;have hR5:=q0bj (HR4.out.below dW HR4.out.1) hg5 (fun q e=>by cases e;show R≠G;omega)
   have hB15:=q0bj (HB14.out.below dW HB14.out.1) hg5 (fun q e=>by cases e;exact fun h=>hNe.1.1 h.symm)
   have hB25:=q0bj (HB24.out.below dW HB24.out.1) hg5 (fun q e=>by cases e;exact fun h=>hNe.1.2.1 h.symm)
   have hgal:=(HA4.out.lt ga rfl).2;have hA5:=q0cu (q0cu (w':=W4.drew) HA4.out rfl) (hg5.block ga hgal (fun e=>by injection e with e;have e':ga=G:=e;omega))
   have hB5:Below W.heap.size W w5:=HBW4.out.drew.grown hg5 (by have:=HBW4.out.size;exact this) (fun q e=>by cases e;exact hNe.2.2.2.1)
   have hgf:=(hown5.lt gf rfl);have hBg:B1≠gf:=by
      rcases hgx with h | h
      ·injection h with h
       exact fun e=>hNe.1.1 (h.trans e.symm)
      ·have h:gf=W4.heap.size+1:=h
       omega
   have hG5:w5.ownsRow wk.heap.size 52 10 (.slice (some ⟨gf,0,none⟩) 4 cf) 4 (shF.vs (lampFs 4)):=hown5;have x1b:=hR5.at_ (j:=1) rfl
   have z3b:=hB15.at_ (j:=3) rfl
   have f3b:=hB15.fr (j:=3) rfl;have l1b:=hR5.1;have l2b:=hB15.1;refine hK.out _ _ (by exact x1b) (fun hHeld=>?_)
   clear hK K
   try simp only [Act.put,List.setIfInBounds_toArray]
   refine wpAnyH_take (i:=10) (oi:=?_) (v:=?_) ?_ (by kernel_rfl) (by kernel_rfl) (by kernel_rfl) ?_ (Or.inl ⟨?_,?_⟩) (by assumption) ?_
   rotate_left 2
   ·(simp only [List.getElem?_toArray,List.getElem?_cons_succ,List.getElem?_cons_zero];rfl)
   ·exact fun _ _ _ h=>h
   ·rfl
   ·(intro w hSw;(try dsimp only at hSw);go_simp;try with_reducible rfl)
   simp only [Act.put];refine wpAnyH_take (i:=11) (oi:=?_) (v:=?_) ?_ (by kernel_rfl) (by kernel_rfl) (by kernel_rfl) ?_ (Or.inl ⟨?_,?_⟩) (by assumption) ?_
   rotate_left 2
   ·(simp only [List.getElem?_toArray,List.getElem?_cons_succ,List.getElem?_cons_zero];rfl)
   ·exact fun _ _ _ h=>h
   ·rfl
   ·(intro w hSw;(try dsimp only at hSw);go_simp;try with_reducible rfl)
   simp only [Act.put];refine wpAnyH_ready (rs:=[12]) (by kernel_rfl) (by simp) ?_
   refine AllReadyH.cons rfl (fun K hK=>?_) AllReadyH.nil
   go_simp
   refine hK.out _ _ (by first | exact (World.cell?_setCell_far _ _ _ _ (by show B1≠R;omega)).trans x1b) (fun hHeld=>?_)
   clear hK K
   try simp only [Act.put,List.setIfInBounds_toArray,List.set_cons_zero,List.set_cons_succ]
   refine wpAnyH_done (by kernel_rfl) ?_ _
   obtain ⟨V9,hV9⟩:∃ V9,V9=(w5.setCell ⟨B1,3,none⟩ (.slice (some ⟨gf,0,none⟩) 4 cf)):=⟨_,rfl⟩;have HV9:=hj_ hV9;have hBX:=hB15.set 3 (.slice (some ⟨gf,0,none⟩) 4 cf) (by show 3<4;decide)
   have hRX:=hR5.far 3 (.slice (some ⟨gf,0,none⟩) 4 cf) (show B1≠R by omega)
   have hXX:=hB25.far 3 (.slice (some ⟨gf,0,none⟩) 4 cf) hNe.1.2.2;have hB19:Cells V9 B1 [.string lampN,.int .i64 8,.int .i64 0,.slice (some ⟨gf,0,none⟩) 4 cf]:=by rw [hV9];exact hBX
   have HR2:=hj_ (show Cells V9 R [.slice none 0 0,.slice (some ⟨B1,0,none⟩) 1 1,.slice (some ⟨B2,0,none⟩) 1 1] by rw [hV9];exact hRX)
   have HX:=hj_ (In_of_cells (S:=shX) (l:=lampX) (show Cells V9 B2 (shX.vs lampX) by rw [hV9];exact hXX))
   have hG9:V9.ownsRow wk.heap.size 52 10 (.slice (some ⟨gf,0,none⟩) 4 cf) 4 (shF.vs (lampFs 4)):=by rw [hV9];exact own_ne hG5 B1 3 (.slice (some ⟨gf,0,none⟩) 4 cf) hBg
   have hA9:V9.ownsRow (R+1) 3 1 (.slice (some ⟨ga,0,none⟩) 4 ca) 4 (iv [3,4,5,6]):=by rw [hV9];exact own_ne hA5 B1 3 (.slice (some ⟨gf,0,none⟩) 4 cf) (by omega)
   have HPL:=hj_ (q0cl (q023 hG9) hB19);have HGc:=hj_ (q023 hG9);have HBc:=hj_ hB19;have HA:=hj_ (show Is V9 (some ⟨ga,0,none⟩) 4 [3,4,5,6] from ⟨rfl,Sl.of_own hA9⟩)
   have HCa:=hj_ (qft hA9);have HBW:=hj_ (show Below W.heap.size W V9 by rw [hV9];exact (hB5.setCell (p:=⟨B1,3,none⟩) hNe.2.2.1 _))
   clear hV9 hBX hRX hXX hB19 hG9 hA9 hBg hB5 hG5 hA5 hR5 hB15 hB25 hown5 hg5 hgx hgf x1b z3b f3b l1b l2b hga hgal dW hle8 hown
   go_upto_region 9 with fail
   rw [← HV9.out];obtain ⟨c0,c1,c2⟩:=HK.out _ HBW.out;obtain ⟨W10,hW10⟩:∃ W10,W10=V9.alloc (.cells #[.int .i64 r,.int .i64 g,.int .i64 b] 53):=⟨_,rfl⟩;have hb10:Below V9.heap.size V9 W10:=by rw [hW10];exact (br_).alloc (Nat.le_refl _) _
   have HQ10:=hj_ (show Cells W10 V9.heap.size [.int .i64 r,.int .i64 g,.int .i64 b] by rw [hW10];exact Cells.fresh V9 [.int .i64 r,.int .i64 g,.int .i64 b] _)
   have HV10:=hj_ hb10;have HW10:=hj_ hW10;clear hW10 hb10
   go_upto_region 10 with fail
   rw [← HW10.out];clear c0 c1 c2 r0 r1 r2;obtain ⟨wh,hwh⟩:∃ wh,wh=cowV [3,4,5,6] r g b:=⟨_,rfl⟩;have hwe:wh=min (min r g) b:=by rw [hwh];unfold cowV;rw [if_pos (by decide)]
   obtain ⟨x,hx⟩:∃ x,x=r-wh:=⟨_,rfl⟩;obtain ⟨y,hy⟩:∃ y,y=g-wh:=⟨_,rfl⟩;obtain ⟨z,hz⟩:∃ z,z=b-wh:=⟨_,rfl⟩;have hmap:([3,4,5,6]:List Int).map (colV r g b wh)=[x,y,z,wh]:=by rw [hx,hy,hz];rfl
   have hmx:=fun (w':World) (h:Is w' (some ⟨ga,0,none⟩) 4 [3,4,5,6])=>q0bo (some ⟨ga,0,none⟩) 4 ca [3,4,5,6] r g b w' h HCa.out.1 (by decide) (by decide) (by decide) (by decide) (by decide) (by decide) HRg.out.1 HRg.out.2.1 HRg.out.2.2
   simp only [← hwh,hmap] at hmx;have HMx:=hj_ hmx;have hbx:0≤x∧x≤65535:=by have:=HRg.out;omega
   have hby:0≤y∧y≤65535:=by have:=HRg.out;omega
   have hbz:0≤z∧z≤65535:=by have:=HRg.out;omega
   have hbwh:0≤wh∧wh≤65535:=by have:=HRg.out;omega
   have HEx:=hj_ (show min (x+wh) 65535=r∧min (y+wh) 65535=g∧min (z+wh) 65535=b from by have:=HRg.out;omega)
   have HBd:=hj_ (show ∀ t ∈ [x,y,z,wh],0≤t∧t≤65535 from fun t ht=>by
    simp only [List.mem_cons,List.not_mem_nil,or_false] at ht
    rcases ht with rfl | rfl | rfl | rfl <;> assumption)
   have HU0:=hj_ (q0bx gf cf hbx hby hbz hbwh);have HL0:=hj_ (show ∀ w',Calls prog 18 #[.agg #[.int .i64 3,.int .i64 16,.int .i64 0,.int .i64 1,.int .i64 0,.int .i64 0,.int .i64 0,.int .i64 65535,.bool false,.slice none 0 0],.slice none 0 0,.int .i64 x] w' fun e w''=>e=.returned (.tuple #[.int .i64 x,.int .i64 0])∧Below w'.heap.size w' w'' from fun w'=>q0cf 0 (by decide) hbx w')
   have HU1:=hj_ (q0by gf cf hbx hby hbz hbwh);have HL1:=hj_ (show ∀ w',Calls prog 18 #[.agg #[.int .i64 4,.int .i64 16,.int .i64 2,.int .i64 3,.int .i64 0,.int .i64 0,.int .i64 0,.int .i64 65535,.bool false,.slice none 0 0],.slice none 0 0,.int .i64 y] w' fun e w''=>e=.returned (.tuple #[.int .i64 y,.int .i64 0])∧Below w'.heap.size w' w'' from fun w'=>q0cf 1 (by decide) hby w')
   have HU2:=hj_ (q0bz gf cf hbx hby hbz hbwh);have HL2:=hj_ (show ∀ w',Calls prog 18 #[.agg #[.int .i64 5,.int .i64 16,.int .i64 4,.int .i64 5,.int .i64 0,.int .i64 0,.int .i64 0,.int .i64 65535,.bool false,.slice none 0 0],.slice none 0 0,.int .i64 z] w' fun e w''=>e=.returned (.tuple #[.int .i64 z,.int .i64 0])∧Below w'.heap.size w' w'' from fun w'=>q0cf 2 (by decide) hbz w')
   have HU3:=hj_ (q0c0 gf cf hbx hby hbz hbwh);have HL3:=hj_ (show ∀ w',Calls prog 18 #[.agg #[.int .i64 6,.int .i64 16,.int .i64 6,.int .i64 7,.int .i64 0,.int .i64 0,.int .i64 0,.int .i64 65535,.bool false,.slice none 0 0],.slice none 0 0,.int .i64 wh] w' fun e w''=>e=.returned (.tuple #[.int .i64 wh,.int .i64 0])∧Below w'.heap.size w' w'' from fun w'=>q0cf 3 (by decide) hbwh w')
   have HGv:=hj_ (q00r (q0cj gf cf) (q0br hbx hby hbz hbwh));have HFrm:=hj_ (fun (Ao:Option Addr) (co:Nat) (wk:World) hp hx (ha:shAm.In wk Ao 4 (colA4 x y z wh)) ht hr=>qtn none 0 0 [] [] (some ⟨B1,0,none⟩) 1 1 (q0ce 4 8 gf cf) (some ⟨B2,0,none⟩) 1 1 lampX Ao 4 co (colA4 x y z wh) wk ⟨Sh.In.nil _ _,rfl,fun i h=>absurd h (Nat.not_lt_zero _)⟩ (fun h hh=>by cases hh) (by decide) hp (by decide) hx (by decide) (by decide) (fun x hx=>by
    unfold lampX at hx
    rcases List.mem_cons.1 hx with rfl | hx
    ·decide
    ·cases hx) ha (by decide) (fun a h=>Nat.le_trans (q0bt hbx hby hbz hbwh a h) (by decide)) ht hr)
   clear hx hy hz hmap hmx hwh hwe hbx hby hbz hbwh;have q0:=HQ10.out.at_ (j:=0) rfl
   have q1:=HQ10.out.at_ (j:=1) rfl
   have q2:=HQ10.out.at_ (j:=2) rfl
   go_wp2_with fail;refine (HMx.out _ (HA.out.below HV10.out)).mono ?_;rintro e w11 ⟨v',rfl,hown,hb⟩;obtain ⟨Am,cm,rfl⟩:=qfu hown;have HLv:=hj_ (show Is w11 Am 4 [x,y,z,wh] from ⟨rfl,Sl.of_own hown⟩)
   obtain ⟨gm,om,em,hgm,-⟩:=HLv.out.at1 (k:=0) (by simp)
   subst em;have HGm:=hj_ hgm;have HV11:=hj_ (ht_ HV10.out hb);have HQ11:=hj_ (HQ10.out.below hb HQ10.out.1);clear hown hb q0 q1 q2 HMx hgm HQ10;go_wp2_with fail
   go_loopw [10,73] (fun ov jv wr=>∃ k:Nat,k≤4∧jv=.int .i64 k∧wr.ownsRow w11.heap.size 62 3 ov k (shAm.vs ((colA4 x y z wh).take k))∧Below w11.heap.size w11 wr) (fun _ jv _=>4-(intOf jv).toNat)
   case atStart=>exact ⟨0,Nat.zero_le _,rfl,World.ownsRow_nil _ _ _ _,br_⟩
   case round =>
    obtain ⟨k,hk,rfl,hown,hB⟩:=hrel;obtain ⟨Ao,co,rfl⟩:=qfu hown;have HB:=hj_ hB;have HVr:=hj_ (ht_ HV11.out hB)
    rename World=>V12
    obtain rfl | rfl | rfl | rfl | rfl:k=0∨k=1∨k=2∨k=3∨k=4:=by omega
    ·have p0:V12.cell? ⟨ga,0,none⟩=some (.int .i64 3):=by
      obtain ⟨b1,o1,q1,hq1,p⟩:=HA.out.at1 (k:=0) (by decide)
      injection q1 with q1;injection q1 with q1 q3;subst q1 q3
      rw [Nat.zero_add] at p;exact (HVr.out.cell (p:=⟨ga,0,none⟩) hq1).trans p
     have p1:V12.cell? ⟨gm,om,none⟩=some (.int .i64 x):=by
      obtain ⟨b1,o1,q1,hq1,p⟩:=HLv.out.at1 (k:=0) (by simp)
      injection q1 with q1;injection q1 with q1 q3;subst q1 q3
      exact (hB.cell (p:=⟨gm,om,none⟩) hq1).trans p
     have hz1:ga<V12.heap.size:=by
      obtain ⟨b1,o1,q1,hq1,-⟩:=HA.out.at1 (k:=0) (by decide)
      injection q1 with q1;injection q1 with q1 q3;subst q1 q3
      exact Nat.lt_of_lt_of_le hq1 HVr.out.size
     have hz2:gm<V12.heap.size:=Nat.lt_of_lt_of_le HGm.out hB.size;have HO:=hj_ hown;clear hown hB;simp only [Int.cast_ofNat_Int];go_wp2_with fail;refine (qrj (x:=x) (by have:=HBd.out x (by simp);omega) (by have:=HBd.out x (by simp);omega) V12).mono ?_
     rintro e w12 ⟨rfl,hb⟩;have hown:=qfq HO.out hb;have HB2:=hj_ (ht_ HB.out hb);have hz:=HB2.out.size;generalize hT:sR (x:Rat)=T at *;have HTt:=hj_ hT;clear hb p0 p1 hz1 hz2 hT;go_wp2_with (at_builtin;refine q003 rfl _ _ _ rfl w11.heap.size _ _ 3 32 underlying56 infoAm rfl (by omega) _ 0 (shAm.vs ((colA4 x y z wh).take 0)) rfl hown [.int .i64 1,.int .i64 3,.string T] _ _ _ rfl (by first | rfl | simp) rfl (am_one _ _ _) (by unfold maxLen;omega) (by omega) hz ?_;intro g1 cap w1' hown1 hg1;have HO1:=hj_ hown1;have HG1:=hj_ hg1;clear hown1 hg1)
     go_roundw
     case rel=>exact ⟨1,by omega,by go_num,by rw [← HTt.out] at HO1;exact HO1.out,q1a HB2.out (Nat.le_refl _) hown HG1.out⟩
     case measure=>simp [intOf]
    ·have p0:V12.cell? ⟨ga,1,none⟩=some (.int .i64 4):=by
      obtain ⟨b1,o1,q1,hq1,p⟩:=HA.out.at1 (k:=1) (by decide)
      injection q1 with q1;injection q1 with q1 q3;subst q1 q3
      rw [Nat.zero_add] at p;exact (HVr.out.cell (p:=⟨ga,1,none⟩) hq1).trans p
     have p1:V12.cell? ⟨gm,om+1,none⟩=some (.int .i64 y):=by
      obtain ⟨b1,o1,q1,hq1,p⟩:=HLv.out.at1 (k:=1) (by simp)
      injection q1 with q1;injection q1 with q1 q3;subst q1 q3
      exact (hB.cell (p:=⟨gm,om+1,none⟩) hq1).trans p
     have hz1:ga<V12.heap.size:=by
      obtain ⟨b1,o1,q1,hq1,-⟩:=HA.out.at1 (k:=0) (by decide)
      injection q1 with q1;injection q1 with q1 q3;subst q1 q3
      exact Nat.lt_of_lt_of_le hq1 HVr.out.size
     have hz2:gm<V12.heap.size:=Nat.lt_of_lt_of_le HGm.out hB.size;have HO:=hj_ hown;clear hown hB;simp only [Int.cast_ofNat_Int];go_wp2_with fail;refine (qrj (x:=y) (by have:=HBd.out y (by simp);omega) (by have:=HBd.out y (by simp);omega) V12).mono ?_
     rintro e w12 ⟨rfl,hb⟩;have hown:=qfq HO.out hb;have HB2:=hj_ (ht_ HB.out hb);have hz:=HB2.out.size;generalize hT:sR (y:Rat)=T at *;have HTt:=hj_ hT;clear hb p0 p1 hz1 hz2 hT;go_wp2_with (at_builtin;refine q003 rfl _ _ _ rfl w11.heap.size _ _ 3 32 underlying56 infoAm rfl (by omega) _ 1 (shAm.vs ((colA4 x y z wh).take 1)) rfl hown [.int .i64 1,.int .i64 4,.string T] _ _ _ rfl (by first | rfl | simp) rfl (am_one _ _ _) (by unfold maxLen;omega) (by omega) hz ?_;intro g1 cap w1' hown1 hg1;have HO1:=hj_ hown1;have HG1:=hj_ hg1;clear hown1 hg1)
     go_roundw
     case rel=>exact ⟨2,by omega,by go_num,by rw [← HTt.out] at HO1;exact HO1.out,q1a HB2.out (Nat.le_refl _) hown HG1.out⟩
     case measure=>simp [intOf]
    ·have p0:V12.cell? ⟨ga,2,none⟩=some (.int .i64 5):=by
      obtain ⟨b1,o1,q1,hq1,p⟩:=HA.out.at1 (k:=2) (by decide)
      injection q1 with q1;injection q1 with q1 q3;subst q1 q3
      rw [Nat.zero_add] at p;exact (HVr.out.cell (p:=⟨ga,2,none⟩) hq1).trans p
     have p1:V12.cell? ⟨gm,om+2,none⟩=some (.int .i64 z):=by
      obtain ⟨b1,o1,q1,hq1,p⟩:=HLv.out.at1 (k:=2) (by simp)
      injection q1 with q1;injection q1 with q1 q3;subst q1 q3
      exact (hB.cell (p:=⟨gm,om+2,none⟩) hq1).trans p
     have hz1:ga<V12.heap.size:=by
      obtain ⟨b1,o1,q1,hq1,-⟩:=HA.out.at1 (k:=0) (by decide)
      injection q1 with q1;injection q1 with q1 q3;subst q1 q3
      exact Nat.lt_of_lt_of_le hq1 HVr.out.size
     have hz2:gm<V12.heap.size:=Nat.lt_of_lt_of_le HGm.out hB.size;have HO:=hj_ hown;clear hown hB;simp only [Int.cast_ofNat_Int];go_wp2_with fail;refine (qrj (x:=z) (by have:=HBd.out z (by simp);omega) (by have:=HBd.out z (by simp);omega) V12).mono ?_
     rintro e w12 ⟨rfl,hb⟩;have hown:=qfq HO.out hb;have HB2:=hj_ (ht_ HB.out hb);have hz:=HB2.out.size;generalize hT:sR (z:Rat)=T at *;have HTt:=hj_ hT;clear hb p0 p1 hz1 hz2 hT;go_wp2_with (at_builtin;refine q003 rfl _ _ _ rfl w11.heap.size _ _ 3 32 underlying56 infoAm rfl (by omega) _ 2 (shAm.vs ((colA4 x y z wh).take 2)) rfl hown [.int .i64 1,.int .i64 5,.string T] _ _ _ rfl (by first | rfl | simp) rfl (am_one _ _ _) (by unfold maxLen;omega) (by omega) hz ?_;intro g1 cap w1' hown1 hg1;have HO1:=hj_ hown1;have HG1:=hj_ hg1;clear hown1 hg1)
     go_roundw
     case rel=>exact ⟨3,by omega,by go_num,by rw [← HTt.out] at HO1;exact HO1.out,q1a HB2.out (Nat.le_refl _) hown HG1.out⟩
     case measure=>simp [intOf]
    ·have p0:V12.cell? ⟨ga,3,none⟩=some (.int .i64 6):=by
      obtain ⟨b1,o1,q1,hq1,p⟩:=HA.out.at1 (k:=3) (by decide)
      injection q1 with q1;injection q1 with q1 q3;subst q1 q3
      rw [Nat.zero_add] at p;exact (HVr.out.cell (p:=⟨ga,3,none⟩) hq1).trans p
     have p1:V12.cell? ⟨gm,om+3,none⟩=some (.int .i64 wh):=by
      obtain ⟨b1,o1,q1,hq1,p⟩:=HLv.out.at1 (k:=3) (by simp)
      injection q1 with q1;injection q1 with q1 q3;subst q1 q3
      exact (hB.cell (p:=⟨gm,om+3,none⟩) hq1).trans p
     have hz1:ga<V12.heap.size:=by
      obtain ⟨b1,o1,q1,hq1,-⟩:=HA.out.at1 (k:=0) (by decide)
      injection q1 with q1;injection q1 with q1 q3;subst q1 q3
      exact Nat.lt_of_lt_of_le hq1 HVr.out.size
     have hz2:gm<V12.heap.size:=Nat.lt_of_lt_of_le HGm.out hB.size;have HO:=hj_ hown;clear hown hB;simp only [Int.cast_ofNat_Int];go_wp2_with fail;refine (qrj (x:=wh) (by have:=HBd.out wh (by simp);omega) (by have:=HBd.out wh (by simp);omega) V12).mono ?_
     rintro e w12 ⟨rfl,hb⟩;have hown:=qfq HO.out hb;have HB2:=hj_ (ht_ HB.out hb);have hz:=HB2.out.size;generalize hT:sR (wh:Rat)=T at *;have HTt:=hj_ hT;clear hb p0 p1 hz1 hz2 hT;go_wp2_with (at_builtin;refine q003 rfl _ _ _ rfl w11.heap.size _ _ 3 32 underlying56 infoAm rfl (by omega) _ 3 (shAm.vs ((colA4 x y z wh).take 3)) rfl hown [.int .i64 1,.int .i64 6,.string T] _ _ _ rfl (by first | rfl | simp) rfl (am_one _ _ _) (by unfold maxLen;omega) (by omega) hz ?_;intro g1 cap w1' hown1 hg1;have HO1:=hj_ hown1;have HG1:=hj_ hg1;clear hown1 hg1)
     go_roundw
     case rel=>exact ⟨4,by omega,by go_num,by rw [← HTt.out] at HO1;exact HO1.out,q1a HB2.out (Nat.le_refl _) hown HG1.out⟩
     case measure=>simp [intOf]
    ·have HI:=hj_ (Sh.In.of_own (S:=shAm) (l:=colA4 x y z wh) hown rfl)
     have hRr:=HR2.out.below HVr.out HR2.out.1;have x0:=hRr.at_ (j:=0) rfl
     have x1:=hRr.at_ (j:=1) rfl
     have x2:=hRr.at_ (j:=2) rfl
     have HBr:=hj_ (ht_ HBW.out HVr.out);clear hown hB hRr;simp only [Int.cast_ofNat_Int];go_wp2_with fail;refine (HFrm.out Ao co _ (HPL.out.below HVr.out) (HX.out.below HVr.out) HI.out (HT.out.below HBr.out) (HRn.out.below HBr.out)).mono ?_;rintro e w13 ⟨rr,rfl,A',c',rfl,ho,hb⟩;rw [HGv.out.1];have HIF:=hj_ (Sh.In.of_own ho rfl);have HV13:=hj_ (ht_ HVr.out hb);have HV11b:=hj_ (ht_ HB.out hb);clear ho hb x0 x1 x2 HFrm;obtain ⟨-,-,fr1,fl1⟩:=HGv.out;have hFs:∀ q ∈ frV [] (q0ce 4 8 gf cf) lampX (colA4 x y z wh),q.sl.size≤9223372036854775807:=fun q hq=>by have:=(fr1.2 q hq).2.2;omega
     have HFs:=hj_ (And.intro hFs fl1);have HRaw:=hj_ (fun (at_:Int) (w':World) hp hx (hf:shFm.In w' A' (frV [] (q0ce 4 8 gf cf) lampX (colA4 x y z wh)).length (frV [] (q0ce 4 8 gf cf) lampX (colA4 x y z wh)))=>q05x none 0 0 [] [] (some ⟨B1,0,none⟩) 1 1 (q0ce 4 8 gf cf) (some ⟨B2,0,none⟩) 1 1 lampX A' (frV [] (q0ce 4 8 gf cf) lampX (colA4 x y z wh)).length c' (frV [] (q0ce 4 8 gf cf) lampX (colA4 x y z wh)) 1 at_ w' ⟨Sh.In.nil _ _,rfl,fun i h=>absurd h (Nat.not_lt_zero _)⟩ (fun h hh=>by cases hh) hp (by decide) hx (by decide) (by decide) (fun x hx=>by
      unfold lampX at hx
      rcases List.mem_cons.1 hx with rfl | hx
      ·decide
      ·cases hx) hf (by have:=HFs.out.2;omega) HFs.out.1)
     have hq0:=HRaw.out 3;rw [HU0.out.1,HU0.out.2] at hq0;have HQ0r:=hj_ hq0;have hq1:=HRaw.out 4;rw [HU1.out.1,HU1.out.2] at hq1;have HQ1r:=hj_ hq1;have hq2:=HRaw.out 5;rw [HU2.out.1,HU2.out.2] at hq2;have HQ2r:=hj_ hq2;have hq3:=HRaw.out 6;rw [HU3.out.1,HU3.out.2] at hq3;have HQ3r:=hj_ hq3;clear hq0 hq1 hq2 hq3 hFs fr1 fl1 HRaw HFs HGv HU0 HU1 HU2 HU3;generalize frV [] (q0ce 4 8 gf cf) lampX (colA4 x y z wh)=F at *;have hR13:=HR2.out.below HV13.out HR2.out.1;have x0:=hR13.at_ (j:=0) rfl
     have x1:=hR13.at_ (j:=1) rfl
     have x2:=hR13.at_ (j:=2) rfl
     have z3:=(HBc.out.below HV13.out HBc.out.1).at_ (j:=3) rfl
     clear hR13;go_wp2_with fail;clear x0 x1 x2 z3
     go_loopw [14,104] (fun ov jv wr=>∃ k:Nat,k≤4∧jv=.int .i64 k∧wr.ownsRow w13.heap.size 3 1 ov k (iv (([x,y,z,wh]:List Int).take k))∧Below w13.heap.size w13 wr) (fun _ jv _=>4-(intOf jv).toNat)
     case atStart=>exact ⟨0,Nat.zero_le _,rfl,World.ownsRow_nil _ _ _ _,br_⟩
     case round =>
      obtain ⟨k,hk,rfl,hown,hB⟩:=hrel;obtain ⟨Ao2,co2,rfl⟩:=qfu hown;have HB5:=hj_ hB;have HVs:=hj_ (ht_ HV13.out hB)
      rename World=>V14
      obtain rfl | rfl | rfl | rfl | rfl:k=0∨k=1∨k=2∨k=3∨k=4:=by omega
      ·have HO:=hj_ hown
       clear hown;have hGr:=HGc.out.below HVs.out HGc.out.1;have e0:V14.cell? ⟨gf,0,none⟩=some (.int .i64 3):=hGr.at_ (j:=0) rfl
       have e1:V14.cell? ⟨gf,1,none⟩=some (.int .i64 16):=hGr.at_ (j:=1) rfl
       have e2:V14.cell? ⟨gf,2,none⟩=some (.int .i64 0):=hGr.at_ (j:=2) rfl
       have e3:V14.cell? ⟨gf,3,none⟩=some (.int .i64 1):=hGr.at_ (j:=3) rfl
       have e4:V14.cell? ⟨gf,4,none⟩=some (.int .i64 0):=hGr.at_ (j:=4) rfl
       have e5:V14.cell? ⟨gf,5,none⟩=some (.int .i64 0):=hGr.at_ (j:=5) rfl
       have e6:V14.cell? ⟨gf,6,none⟩=some (.int .i64 0):=hGr.at_ (j:=6) rfl
       have e7:V14.cell? ⟨gf,7,none⟩=some (.int .i64 65535):=hGr.at_ (j:=7) rfl
       have e8:V14.cell? ⟨gf,8,none⟩=some (.bool false):=hGr.at_ (j:=8) rfl
       have e9:V14.cell? ⟨gf,9,none⟩=some (.slice none 0 0):=hGr.at_ (j:=9) rfl
       obtain ⟨W15,hW15⟩:∃ W15,W15=V14.alloc (.cells #[.int .i64 3,.int .i64 16,.int .i64 0,.int .i64 1,.int .i64 0,.int .i64 0,.int .i64 0,.int .i64 65535,.bool false,.slice none 0 0] 52):=⟨_,rfl⟩;have hb15:Below V14.heap.size V14 W15:=by rw [hW15];exact (br_).alloc (Nat.le_refl _) _
       have HE15:=hj_ (show Cells W15 V14.heap.size [.int .i64 3,.int .i64 16,.int .i64 0,.int .i64 1,.int .i64 0,.int .i64 0,.int .i64 0,.int .i64 65535,.bool false,.slice none 0 0] by rw [hW15];exact Cells.fresh V14 [.int .i64 3,.int .i64 16,.int .i64 0,.int .i64 1,.int .i64 0,.int .i64 0,.int .i64 0,.int .i64 65535,.bool false,.slice none 0 0] _)
       have HV15:=hj_ (ht_ HVs.out hb15);have HB15:=hj_ hb15;have HW15:=hj_ hW15;clear hGr hB hW15 hb15;simp only [Int.cast_ofNat_Int]
       go_upto_region 26 with fail
       rw [← HW15.out];clear e0 e1 e2 e3 e4 e5 e6 e7 e8 e9;have e0:=HE15.out.at_ (j:=0) rfl
       have hRr:=HR2.out.below HV15.out HR2.out.1;have x0:=hRr.at_ (j:=0) rfl
       have x1:=hRr.at_ (j:=1) rfl
       have x2:=hRr.at_ (j:=2) rfl
       clear hRr;go_wp2_with fail;refine (HQ0r.out _ (HPL.out.below HV15.out) (HX.out.below HV15.out) (HIF.out.below (ht_ HB5.out HB15.out))).mono ?_;rintro e w16 ⟨rfl,hb⟩;have hE:=HE15.out.below hb HE15.out.1;have HB16:=hj_ ((ht_ HB5.out HB15.out).trans (hb.mono (ht_ HB5.out HB15.out).size));have HV16:=hj_ (ht_ HV15.out hb);have HO16:=hj_ (qfq (qfq HO.out HB15.out) hb);clear e0 x0 x1 x2;have e0:=hE.at_ (j:=0) rfl
       have e1:=hE.at_ (j:=1) rfl
       have e2:=hE.at_ (j:=2) rfl
       have e3:=hE.at_ (j:=3) rfl
       have e4:=hE.at_ (j:=4) rfl
       have e5:=hE.at_ (j:=5) rfl
       have e6:=hE.at_ (j:=6) rfl
       have e7:=hE.at_ (j:=7) rfl
       have e8:=hE.at_ (j:=8) rfl
       have e9:=hE.at_ (j:=9) rfl
       clear hE hb;go_wp2_with fail;refine (HL0.out _).mono ?_;rintro e w17 ⟨rfl,hb⟩;have hown:=qfq HO16.out hb;have HB17:=hj_ (ht_ HB16.out hb);have hz:=HB17.out.size;clear e0 e1 e2 e3 e4 e5 e6 e7 e8 e9 hb;go_wp2_with (at_builtin;refine q003 rfl _ _ _ rfl w13.heap.size _ _ 1 8 underlying49 infoN rfl (by omega) _ 0 (iv (([x,y,z,wh]:List Int).take 0)) rfl hown [.int .i64 x] _ _ _ rfl (by first | rfl | simp) rfl (qf9 _) (by unfold maxLen;omega) (by omega) hz ?_;intro g1 cap w1' hown1 hg1;have HO1:=hj_ hown1;have HG1:=hj_ hg1;clear hown1 hg1)
       go_roundw
       case rel=>exact ⟨1,by omega,by go_num,HO1.out,q1a HB17.out (Nat.le_refl _) hown HG1.out⟩
       case measure=>simp [intOf]
      ·have HO:=hj_ hown
       clear hown;have hGr:=HGc.out.below HVs.out HGc.out.1;have e0:V14.cell? ⟨gf,10,none⟩=some (.int .i64 4):=hGr.at_ (j:=10) rfl
       have e1:V14.cell? ⟨gf,11,none⟩=some (.int .i64 16):=hGr.at_ (j:=11) rfl
       have e2:V14.cell? ⟨gf,12,none⟩=some (.int .i64 2):=hGr.at_ (j:=12) rfl
       have e3:V14.cell? ⟨gf,13,none⟩=some (.int .i64 3):=hGr.at_ (j:=13) rfl
       have e4:V14.cell? ⟨gf,14,none⟩=some (.int .i64 0):=hGr.at_ (j:=14) rfl
       have e5:V14.cell? ⟨gf,15,none⟩=some (.int .i64 0):=hGr.at_ (j:=15) rfl
       have e6:V14.cell? ⟨gf,16,none⟩=some (.int .i64 0):=hGr.at_ (j:=16) rfl
       have e7:V14.cell? ⟨gf,17,none⟩=some (.int .i64 65535):=hGr.at_ (j:=17) rfl
       have e8:V14.cell? ⟨gf,18,none⟩=some (.bool false):=hGr.at_ (j:=18) rfl
       have e9:V14.cell? ⟨gf,19,none⟩=some (.slice none 0 0):=hGr.at_ (j:=19) rfl
       obtain ⟨W15,hW15⟩:∃ W15,W15=V14.alloc (.cells #[.int .i64 4,.int .i64 16,.int .i64 2,.int .i64 3,.int .i64 0,.int .i64 0,.int .i64 0,.int .i64 65535,.bool false,.slice none 0 0] 52):=⟨_,rfl⟩;have hb15:Below V14.heap.size V14 W15:=by rw [hW15];exact (br_).alloc (Nat.le_refl _) _
       have HE15:=hj_ (show Cells W15 V14.heap.size [.int .i64 4,.int .i64 16,.int .i64 2,.int .i64 3,.int .i64 0,.int .i64 0,.int .i64 0,.int .i64 65535,.bool false,.slice none 0 0] by rw [hW15];exact Cells.fresh V14 [.int .i64 4,.int .i64 16,.int .i64 2,.int .i64 3,.int .i64 0,.int .i64 0,.int .i64 0,.int .i64 65535,.bool false,.slice none 0 0] _)
       have HV15:=hj_ (ht_ HVs.out hb15);have HB15:=hj_ hb15;have HW15:=hj_ hW15;clear hGr hB hW15 hb15;simp only [Int.cast_ofNat_Int]
       go_upto_region 26 with fail
       rw [← HW15.out];clear e0 e1 e2 e3 e4 e5 e6 e7 e8 e9;have e0:=HE15.out.at_ (j:=0) rfl
       have hRr:=HR2.out.below HV15.out HR2.out.1;have x0:=hRr.at_ (j:=0) rfl
       have x1:=hRr.at_ (j:=1) rfl
       have x2:=hRr.at_ (j:=2) rfl
       clear hRr;go_wp2_with fail;refine (HQ1r.out _ (HPL.out.below HV15.out) (HX.out.below HV15.out) (HIF.out.below (ht_ HB5.out HB15.out))).mono ?_;rintro e w16 ⟨rfl,hb⟩;have hE:=HE15.out.below hb HE15.out.1;have HB16:=hj_ ((ht_ HB5.out HB15.out).trans (hb.mono (ht_ HB5.out HB15.out).size));have HV16:=hj_ (ht_ HV15.out hb);have HO16:=hj_ (qfq (qfq HO.out HB15.out) hb);clear e0 x0 x1 x2;have e0:=hE.at_ (j:=0) rfl
       have e1:=hE.at_ (j:=1) rfl
       have e2:=hE.at_ (j:=2) rfl
       have e3:=hE.at_ (j:=3) rfl
       have e4:=hE.at_ (j:=4) rfl
       have e5:=hE.at_ (j:=5) rfl
       have e6:=hE.at_ (j:=6) rfl
       have e7:=hE.at_ (j:=7) rfl
       have e8:=hE.at_ (j:=8) rfl
       have e9:=hE.at_ (j:=9) rfl
       clear hE hb;go_wp2_with fail;refine (HL1.out _).mono ?_;rintro e w17 ⟨rfl,hb⟩;have hown:=qfq HO16.out hb;have HB17:=hj_ (ht_ HB16.out hb);have hz:=HB17.out.size;clear e0 e1 e2 e3 e4 e5 e6 e7 e8 e9 hb;go_wp2_with (at_builtin;refine q003 rfl _ _ _ rfl w13.heap.size _ _ 1 8 underlying49 infoN rfl (by omega) _ 1 (iv (([x,y,z,wh]:List Int).take 1)) rfl hown [.int .i64 y] _ _ _ rfl (by first | rfl | simp) rfl (qf9 _) (by unfold maxLen;omega) (by omega) hz ?_;intro g1 cap w1' hown1 hg1;have HO1:=hj_ hown1;have HG1:=hj_ hg1;clear hown1 hg1)
       go_roundw
       case rel=>exact ⟨2,by omega,by go_num,HO1.out,q1a HB17.out (Nat.le_refl _) hown HG1.out⟩
       case measure=>simp [intOf]
      ·have HO:=hj_ hown
       clear hown;have hGr:=HGc.out.below HVs.out HGc.out.1;have e0:V14.cell? ⟨gf,20,none⟩=some (.int .i64 5):=hGr.at_ (j:=20) rfl
       have e1:V14.cell? ⟨gf,21,none⟩=some (.int .i64 16):=hGr.at_ (j:=21) rfl
       have e2:V14.cell? ⟨gf,22,none⟩=some (.int .i64 4):=hGr.at_ (j:=22) rfl
       have e3:V14.cell? ⟨gf,23,none⟩=some (.int .i64 5):=hGr.at_ (j:=23) rfl
       have e4:V14.cell? ⟨gf,24,none⟩=some (.int .i64 0):=hGr.at_ (j:=24) rfl
       have e5:V14.cell? ⟨gf,25,none⟩=some (.int .i64 0):=hGr.at_ (j:=25) rfl
       have e6:V14.cell? ⟨gf,26,none⟩=some (.int .i64 0):=hGr.at_ (j:=26) rfl
       have e7:V14.cell? ⟨gf,27,none⟩=some (.int .i64 65535):=hGr.at_ (j:=27) rfl
       have e8:V14.cell? ⟨gf,28,none⟩=some (.bool false):=hGr.at_ (j:=28) rfl
       have e9:V14.cell? ⟨gf,29,none⟩=some (.slice none 0 0):=hGr.at_ (j:=29) rfl
       obtain ⟨W15,hW15⟩:∃ W15,W15=V14.alloc (.cells #[.int .i64 5,.int .i64 16,.int .i64 4,.int .i64 5,.int .i64 0,.int .i64 0,.int .i64 0,.int .i64 65535,.bool false,.slice none 0 0] 52):=⟨_,rfl⟩;have hb15:Below V14.heap.size V14 W15:=by rw [hW15];exact (br_).alloc (Nat.le_refl _) _
       have HE15:=hj_ (show Cells W15 V14.heap.size [.int .i64 5,.int .i64 16,.int .i64 4,.int .i64 5,.int .i64 0,.int .i64 0,.int .i64 0,.int .i64 65535,.bool false,.slice none 0 0] by rw [hW15];exact Cells.fresh V14 [.int .i64 5,.int .i64 16,.int .i64 4,.int .i64 5,.int .i64 0,.int .i64 0,.int .i64 0,.int .i64 65535,.bool false,.slice none 0 0] _)
       have HV15:=hj_ (ht_ HVs.out hb15);have HB15:=hj_ hb15;have HW15:=hj_ hW15;clear hGr hB hW15 hb15;simp only [Int.cast_ofNat_Int]
       go_upto_region 26 with fail
       rw [← HW15.out];clear e0 e1 e2 e3 e4 e5 e6 e7 e8 e9;have e0:=HE15.out.at_ (j:=0) rfl
       have hRr:=HR2.out.below HV15.out HR2.out.1;have x0:=hRr.at_ (j:=0) rfl
       have x1:=hRr.at_ (j:=1) rfl
       have x2:=hRr.at_ (j:=2) rfl
       clear hRr;go_wp2_with fail;refine (HQ2r.out _ (HPL.out.below HV15.out) (HX.out.below HV15.out) (HIF.out.below (ht_ HB5.out HB15.out))).mono ?_;rintro e w16 ⟨rfl,hb⟩;have hE:=HE15.out.below hb HE15.out.1;have HB16:=hj_ ((ht_ HB5.out HB15.out).trans (hb.mono (ht_ HB5.out HB15.out).size));have HV16:=hj_ (ht_ HV15.out hb);have HO16:=hj_ (qfq (qfq HO.out HB15.out) hb);clear e0 x0 x1 x2;have e0:=hE.at_ (j:=0) rfl
       have e1:=hE.at_ (j:=1) rfl
       have e2:=hE.at_ (j:=2) rfl
       have e3:=hE.at_ (j:=3) rfl
       have e4:=hE.at_ (j:=4) rfl
       have e5:=hE.at_ (j:=5) rfl
       have e6:=hE.at_ (j:=6) rfl
       have e7:=hE.at_ (j:=7) rfl
       have e8:=hE.at_ (j:=8) rfl
       have e9:=hE.at_ (j:=9) rfl
       clear hE hb;go_wp2_with fail;refine (HL2.out _).mono ?_;rintro e w17 ⟨rfl,hb⟩;have hown:=qfq HO16.out hb;have HB17:=hj_ (ht_ HB16.out hb);have hz:=HB17.out.size;clear e0 e1 e2 e3 e4 e5 e6 e7 e8 e9 hb;go_wp2_with (at_builtin;refine q003 rfl _ _ _ rfl w13.heap.size _ _ 1 8 underlying49 infoN rfl (by omega) _ 2 (iv (([x,y,z,wh]:List Int).take 2)) rfl hown [.int .i64 z] _ _ _ rfl (by first | rfl | simp) rfl (qf9 _) (by unfold maxLen;omega) (by omega) hz ?_;intro g1 cap w1' hown1 hg1;have HO1:=hj_ hown1;have HG1:=hj_ hg1;clear hown1 hg1)
       go_roundw
       case rel=>exact ⟨3,by omega,by go_num,HO1.out,q1a HB17.out (Nat.le_refl _) hown HG1.out⟩
       case measure=>simp [intOf]
      ·have HO:=hj_ hown
       clear hown;have hGr:=HGc.out.below HVs.out HGc.out.1;have e0:V14.cell? ⟨gf,30,none⟩=some (.int .i64 6):=hGr.at_ (j:=30) rfl
       have e1:V14.cell? ⟨gf,31,none⟩=some (.int .i64 16):=hGr.at_ (j:=31) rfl
       have e2:V14.cell? ⟨gf,32,none⟩=some (.int .i64 6):=hGr.at_ (j:=32) rfl
       have e3:V14.cell? ⟨gf,33,none⟩=some (.int .i64 7):=hGr.at_ (j:=33) rfl
       have e4:V14.cell? ⟨gf,34,none⟩=some (.int .i64 0):=hGr.at_ (j:=34) rfl
       have e5:V14.cell? ⟨gf,35,none⟩=some (.int .i64 0):=hGr.at_ (j:=35) rfl
       have e6:V14.cell? ⟨gf,36,none⟩=some (.int .i64 0):=hGr.at_ (j:=36) rfl
       have e7:V14.cell? ⟨gf,37,none⟩=some (.int .i64 65535):=hGr.at_ (j:=37) rfl
       have e8:V14.cell? ⟨gf,38,none⟩=some (.bool false):=hGr.at_ (j:=38) rfl
       have e9:V14.cell? ⟨gf,39,none⟩=some (.slice none 0 0):=hGr.at_ (j:=39) rfl
       obtain ⟨W15,hW15⟩:∃ W15,W15=V14.alloc (.cells #[.int .i64 6,.int .i64 16,.int .i64 6,.int .i64 7,.int .i64 0,.int .i64 0,.int .i64 0,.int .i64 65535,.bool false,.slice none 0 0] 52):=⟨_,rfl⟩;have hb15:Below V14.heap.size V14 W15:=by rw [hW15];exact (br_).alloc (Nat.le_refl _) _
       have HE15:=hj_ (show Cells W15 V14.heap.size [.int .i64 6,.int .i64 16,.int .i64 6,.int .i64 7,.int .i64 0,.int .i64 0,.int .i64 0,.int .i64 65535,.bool false,.slice none 0 0] by rw [hW15];exact Cells.fresh V14 [.int .i64 6,.int .i64 16,.int .i64 6,.int .i64 7,.int .i64 0,.int .i64 0,.int .i64 0,.int .i64 65535,.bool false,.slice none 0 0] _)
       have HV15:=hj_ (ht_ HVs.out hb15);have HB15:=hj_ hb15;have HW15:=hj_ hW15;clear hGr hB hW15 hb15;simp only [Int.cast_ofNat_Int]
       go_upto_region 26 with fail
       rw [← HW15.out];clear e0 e1 e2 e3 e4 e5 e6 e7 e8 e9;have e0:=HE15.out.at_ (j:=0) rfl
       have hRr:=HR2.out.below HV15.out HR2.out.1;have x0:=hRr.at_ (j:=0) rfl
       have x1:=hRr.at_ (j:=1) rfl
       have x2:=hRr.at_ (j:=2) rfl
       clear hRr;go_wp2_with fail;refine (HQ3r.out _ (HPL.out.below HV15.out) (HX.out.below HV15.out) (HIF.out.below (ht_ HB5.out HB15.out))).mono ?_;rintro e w16 ⟨rfl,hb⟩;have hE:=HE15.out.below hb HE15.out.1;have HB16:=hj_ ((ht_ HB5.out HB15.out).trans (hb.mono (ht_ HB5.out HB15.out).size));have HV16:=hj_ (ht_ HV15.out hb);have HO16:=hj_ (qfq (qfq HO.out HB15.out) hb);clear e0 x0 x1 x2;have e0:=hE.at_ (j:=0) rfl
       have e1:=hE.at_ (j:=1) rfl
       have e2:=hE.at_ (j:=2) rfl
       have e3:=hE.at_ (j:=3) rfl
       have e4:=hE.at_ (j:=4) rfl
       have e5:=hE.at_ (j:=5) rfl
       have e6:=hE.at_ (j:=6) rfl
       have e7:=hE.at_ (j:=7) rfl
       have e8:=hE.at_ (j:=8) rfl
       have e9:=hE.at_ (j:=9) rfl
       clear hE hb;go_wp2_with fail;refine (HL3.out _).mono ?_;rintro e w17 ⟨rfl,hb⟩;have hown:=qfq HO16.out hb;have HB17:=hj_ (ht_ HB16.out hb);have hz:=HB17.out.size;clear e0 e1 e2 e3 e4 e5 e6 e7 e8 e9 hb;go_wp2_with (at_builtin;refine q003 rfl _ _ _ rfl w13.heap.size _ _ 1 8 underlying49 infoN rfl (by omega) _ 3 (iv (([x,y,z,wh]:List Int).take 3)) rfl hown [.int .i64 wh] _ _ _ rfl (by first | rfl | simp) rfl (qf9 _) (by unfold maxLen;omega) (by omega) hz ?_;intro g1 cap w1' hown1 hg1;have HO1:=hj_ hown1;have HG1:=hj_ hg1;clear hown1 hg1)
       go_roundw
       case rel=>exact ⟨4,by omega,by go_num,HO1.out,q1a HB17.out (Nat.le_refl _) hown HG1.out⟩
       case measure=>simp [intOf]
      ·have HI2:=hj_ (show Is V14 Ao2 4 [x,y,z,wh] from ⟨rfl,Sl.of_own hown⟩)
       clear hown hB;simp only [Int.cast_ofNat_Int];go_wp2_with fail;refine (q0bn (some ⟨ga,0,none⟩) ca Ao2 co2 x y z wh _ (HA.out.below HVs.out) HCa.out.1 HI2.out HBd.out).mono ?_;rintro e w18 ⟨rfl,hb⟩;rw [HEx.out.1,HEx.out.2.1,HEx.out.2.2];have hz18:=ht_ HVs.out hb;have hz11:=HV13.out.size;have hB18:=(ht_ HV11b.out HB5.out).trans (hb.mono (ht_ HV11b.out HB5.out).size);obtain ⟨W19,hW19⟩:∃ W19,W19=w18.alloc (.cells #[.int .i64 r,.int .i64 g,.int .i64 b] 53):=⟨_,rfl⟩;have hb19:Below w18.heap.size w18 W19:=by rw [hW19];exact (br_).alloc (Nat.le_refl _) _
       have hQ19:Cells W19 w18.heap.size [.int .i64 r,.int .i64 g,.int .i64 b]:=by rw [hW19];exact Cells.fresh w18 [.int .i64 r,.int .i64 g,.int .i64 b] _
       have hQ7:=(HQ11.out.below hB18 HQ11.out.1).below hb19 (HQ11.out.below hB18 HQ11.out.1).1;have hW:=HBW.out.trans ((ht_ hz18 hb19).mono HBW.out.size);have HWB:=hj_ (ht_ HB0.out hW);have HW19:=hj_ hW19;clear hz18 hz11 hB18 hb19 hW19 hW hb
       go_upto_region 33 with fail
       rw [← HW19.out];have e0:=hQ19.at_ (j:=0) rfl
       have e1:=hQ19.at_ (j:=1) rfl
       have e2:=hQ19.at_ (j:=2) rfl
       have x0:=hQ7.at_ (j:=0) rfl
       have x1:=hQ7.at_ (j:=1) rfl
       have x2:=hQ7.at_ (j:=2) rfl
       have heq:=q0c4 r g b W19;clear hQ19 hQ7;go_wp2_with fail;go_ret;exact ⟨rfl,HWB.out⟩
  ·go_simp
   refine hK.out _ _ (by first | exact x1 | exact x1a) (fun hHeld=>?_)
   clear hK K
   try simp only [Act.put,List.setIfInBounds_toArray,List.set_cons_zero,List.set_cons_succ]
   refine wpAnyH_ready (rs:=[6]) (by kernel_rfl) (by simp) ?_
   refine AllReadyH.cons rfl (fun K hK=>?_) AllReadyH.nil
   go_simp
   refine hK.out _ _ (by first | exact x1 | exact x1a) (fun hHeld=>?_)
   clear hK K
   try simp only [Act.put,List.setIfInBounds_toArray,List.set_cons_zero,List.set_cons_succ]
   refine wpAnyH_ready (rs:=[9]) (by kernel_rfl) (by simp) ?_
   refine AllReadyH.cons rfl (fun K hK=>?_) AllReadyH.nil
   have e9:(W4.alloc (.cells #[.int .i64 6,.int .i64 16,.int .i64 6,.int .i64 7,.int .i64 0,.int .i64 0,.int .i64 0,.int .i64 65535,.bool false,.slice none 0 0] 52)).drew=W4.drew.alloc (.cells #[.int .i64 6,.int .i64 16,.int .i64 6,.int .i64 7,.int .i64 0,.int .i64 0,.int .i64 0,.int .i64 65535,.bool false,.slice none 0 0] 52):=rfl;rw [e9];have hown:=q0cu (w':=W4.drew) HG4.out rfl;have hle8:wk.heap.size≤W4.drew.heap.size:=HLe.out;refine q0d8 rfl (.tmp 40) (.tmp 42) 37 rfl wk.heap.size 52 _ 10 96 underlying37 infoFe rfl (by omega) _ 3 (shF.vs (lampFs 3)) (by simp [Act.eval]) hown [.int .i64 6,.int .i64 16,.int .i64 6,.int .i64 7,.int .i64 0,.int .i64 0,.int .i64 0,.int .i64 65535,.bool false,.slice none 0 0] 52 W4.heap.size 1 (by simp [Act.eval]) rfl rfl (fe_one _ _ _ _ _ _ _ _ _ _ _ _) (by unfold maxLen;omega) (by omega) hle8 ?_
   intro gf cf w5 hown5 hg5 hgx;have hNe:=HNe.out;have hga:=HGa.out;have dW:=(Below.refl W4.heap.size W4).drew;have hR5:=q0bj (HR4.out.below dW HR4.out.1) hg5 (fun q e=>by cases e;show R≠G;omega)
   have hB15:=q0bj (HB14.out.below dW HB14.out.1) hg5 (fun q e=>by cases e;exact fun h=>hNe.1.1 h.symm)
   have hB25:=q0bj (HB24.out.below dW HB24.out.1) hg5 (fun q e=>by cases e;exact fun h=>hNe.1.2.1 h.symm)
   have hgal:=(HA4.out.lt ga rfl).2;have hA5:=q0cu (q0cu (w':=W4.drew) HA4.out rfl) (hg5.block ga hgal (fun e=>by injection e with e;have e':ga=G:=e;omega))
   have hB5:Below W.heap.size W w5:=HBW4.out.drew.grown hg5 (by have:=HBW4.out.size;exact this) (fun q e=>by cases e;exact hNe.2.2.2.1)
   have hgf:=(hown5.lt gf rfl);have hBg:B1≠gf:=by
      rcases hgx with h | h
      ·injection h with h
       exact fun e=>hNe.1.1 (h.trans e.symm)
      ·have h:gf=W4.heap.size+1:=h
       omega
   have hG5:w5.ownsRow wk.heap.size 52 10 (.slice (some ⟨gf,0,none⟩) 4 cf) 4 (shF.vs (lampFs 4)):=hown5;have x1b:=hR5.at_ (j:=1) rfl
   have z3b:=hB15.at_ (j:=3) rfl
   have f3b:=hB15.fr (j:=3) rfl;have l1b:=hR5.1;have l2b:=hB15.1;refine hK.out _ _ (by exact x1b) (fun hHeld=>?_)
   clear hK K
   try simp only [Act.put,List.setIfInBounds_toArray]
   refine wpAnyH_take (i:=10) (oi:=?_) (v:=?_) ?_ (by kernel_rfl) (by kernel_rfl) (by kernel_rfl) ?_ (Or.inl ⟨?_,?_⟩) (by assumption) ?_
   rotate_left 2
   ·(simp only [List.getElem?_toArray,List.getElem?_cons_succ,List.getElem?_cons_zero];rfl)
   ·exact fun _ _ _ h=>h
   ·rfl
   ·(intro w hSw;(try dsimp only at hSw);go_simp;try with_reducible rfl)
   simp only [Act.put];refine wpAnyH_take (i:=11) (oi:=?_) (v:=?_) ?_ (by kernel_rfl) (by kernel_rfl) (by kernel_rfl) ?_ (Or.inl ⟨?_,?_⟩) (by assumption) ?_
   rotate_left 2
   ·(simp only [List.getElem?_toArray,List.getElem?_cons_succ,List.getElem?_cons_zero];rfl)
   ·exact fun _ _ _ h=>h
   ·rfl
   ·(intro w hSw;(try dsimp only at hSw);go_simp;try with_reducible rfl)
   simp only [Act.put];refine wpAnyH_ready (rs:=[12]) (by kernel_rfl) (by simp) ?_
   refine AllReadyH.cons rfl (fun K hK=>?_) AllReadyH.nil
   go_simp
   refine hK.out _ _ (by first | exact (World.cell?_setCell_far _ _ _ _ (by show B1≠R;omega)).trans x1b) (fun hHeld=>?_)
   clear hK K
   try simp only [Act.put,List.setIfInBounds_toArray,List.set_cons_zero,List.set_cons_succ]
   refine wpAnyH_done (by kernel_rfl) ?_ _
   obtain ⟨V9,hV9⟩:∃ V9,V9=(w5.setCell ⟨B1,3,none⟩ (.slice (some ⟨gf,0,none⟩) 4 cf)):=⟨_,rfl⟩;have HV9:=hj_ hV9;have hBX:=hB15.set 3 (.slice (some ⟨gf,0,none⟩) 4 cf) (by show 3<4;decide)
   have hRX:=hR5.far 3 (.slice (some ⟨gf,0,none⟩) 4 cf) (show B1≠R by omega)
   have hXX:=hB25.far 3 (.slice (some ⟨gf,0,none⟩) 4 cf) hNe.1.2.2;have hB19:Cells V9 B1 [.string lampN,.int .i64 8,.int .i64 0,.slice (some ⟨gf,0,none⟩) 4 cf]:=by rw [hV9];exact hBX
   have HR2:=hj_ (show Cells V9 R [.slice none 0 0,.slice (some ⟨B1,0,none⟩) 1 1,.slice (some ⟨B2,0,none⟩) 1 1] by rw [hV9];exact hRX)
   have HX:=hj_ (In_of_cells (S:=shX) (l:=lampX) (show Cells V9 B2 (shX.vs lampX) by rw [hV9];exact hXX))
   have hG9:V9.ownsRow wk.heap.size 52 10 (.slice (some ⟨gf,0,none⟩) 4 cf) 4 (shF.vs (lampFs 4)):=by rw [hV9];exact own_ne hG5 B1 3 (.slice (some ⟨gf,0,none⟩) 4 cf) hBg
   have hA9:V9.ownsRow (R+1) 3 1 (.slice (some ⟨ga,0,none⟩) 4 ca) 4 (iv [3,4,5,6]):=by rw [hV9];exact own_ne hA5 B1 3 (.slice (some ⟨gf,0,none⟩) 4 cf) (by omega)
   have HPL:=hj_ (q0cl (q023 hG9) hB19);have HGc:=hj_ (q023 hG9);have HBc:=hj_ hB19;have HA:=hj_ (show Is V9 (some ⟨ga,0,none⟩) 4 [3,4,5,6] from ⟨rfl,Sl.of_own hA9⟩)
   have HCa:=hj_ (qft hA9);have HBW:=hj_ (show Below W.heap.size W V9 by rw [hV9];exact (hB5.setCell (p:=⟨B1,3,none⟩) hNe.2.2.1 _))
   clear hV9 hBX hRX hXX hB19 hG9 hA9 hBg hB5 hG5 hA5 hR5 hB15 hB25 hown5 hg5 hgx hgf x1b z3b f3b l1b l2b hga hgal dW hle8 hown
   go_upto_region 9 with fail
   rw [← HV9.out];obtain ⟨c0,c1,c2⟩:=HK.out _ HBW.out;obtain ⟨W10,hW10⟩:∃ W10,W10=V9.alloc (.cells #[.int .i64 r,.int .i64 g,.int .i64 b] 53):=⟨_,rfl⟩;have hb10:Below V9.heap.size V9 W10:=by rw [hW10];exact (br_).alloc (Nat.le_refl _) _
   have HQ10:=hj_ (show Cells W10 V9.heap.size [.int .i64 r,.int .i64 g,.int .i64 b] by rw [hW10];exact Cells.fresh V9 [.int .i64 r,.int .i64 g,.int .i64 b] _)
   have HV10:=hj_ hb10;have HW10:=hj_ hW10;clear hW10 hb10
   go_upto_region 10 with fail
   rw [← HW10.out];clear c0 c1 c2 r0 r1 r2;obtain ⟨wh,hwh⟩:∃ wh,wh=cowV [3,4,5,6] r g b:=⟨_,rfl⟩;have hwe:wh=min (min r g) b:=by rw [hwh];unfold cowV;rw [if_pos (by decide)]
   obtain ⟨x,hx⟩:∃ x,x=r-wh:=⟨_,rfl⟩;obtain ⟨y,hy⟩:∃ y,y=g-wh:=⟨_,rfl⟩;obtain ⟨z,hz⟩:∃ z,z=b-wh:=⟨_,rfl⟩;have hmap:([3,4,5,6]:List Int).map (colV r g b wh)=[x,y,z,wh]:=by rw [hx,hy,hz];rfl
   have hmx:=fun (w':World) (h:Is w' (some ⟨ga,0,none⟩) 4 [3,4,5,6])=>q0bo (some ⟨ga,0,none⟩) 4 ca [3,4,5,6] r g b w' h HCa.out.1 (by decide) (by decide) (by decide) (by decide) (by decide) (by decide) HRg.out.1 HRg.out.2.1 HRg.out.2.2
   simp only [← hwh,hmap] at hmx;have HMx:=hj_ hmx;have hbx:0≤x∧x≤65535:=by have:=HRg.out;omega
   have hby:0≤y∧y≤65535:=by have:=HRg.out;omega
   have hbz:0≤z∧z≤65535:=by have:=HRg.out;omega
   have hbwh:0≤wh∧wh≤65535:=by have:=HRg.out;omega
   have HEx:=hj_ (show min (x+wh) 65535=r∧min (y+wh) 65535=g∧min (z+wh) 65535=b from by have:=HRg.out;omega)
   have HBd:=hj_ (show ∀ t ∈ [x,y,z,wh],0≤t∧t≤65535 from fun t ht=>by
    simp only [List.mem_cons,List.not_mem_nil,or_false] at ht
    rcases ht with rfl | rfl | rfl | rfl <;> assumption)
   have HU0:=hj_ (q0bx gf cf hbx hby hbz hbwh);have HL0:=hj_ (show ∀ w',Calls prog 18 #[.agg #[.int .i64 3,.int .i64 16,.int .i64 0,.int .i64 1,.int .i64 0,.int .i64 0,.int .i64 0,.int .i64 65535,.bool false,.slice none 0 0],.slice none 0 0,.int .i64 x] w' fun e w''=>e=.returned (.tuple #[.int .i64 x,.int .i64 0])∧Below w'.heap.size w' w'' from fun w'=>q0cf 0 (by decide) hbx w')
   have HU1:=hj_ (q0by gf cf hbx hby hbz hbwh);have HL1:=hj_ (show ∀ w',Calls prog 18 #[.agg #[.int .i64 4,.int .i64 16,.int .i64 2,.int .i64 3,.int .i64 0,.int .i64 0,.int .i64 0,.int .i64 65535,.bool false,.slice none 0 0],.slice none 0 0,.int .i64 y] w' fun e w''=>e=.returned (.tuple #[.int .i64 y,.int .i64 0])∧Below w'.heap.size w' w'' from fun w'=>q0cf 1 (by decide) hby w')
   have HU2:=hj_ (q0bz gf cf hbx hby hbz hbwh);have HL2:=hj_ (show ∀ w',Calls prog 18 #[.agg #[.int .i64 5,.int .i64 16,.int .i64 4,.int .i64 5,.int .i64 0,.int .i64 0,.int .i64 0,.int .i64 65535,.bool false,.slice none 0 0],.slice none 0 0,.int .i64 z] w' fun e w''=>e=.returned (.tuple #[.int .i64 z,.int .i64 0])∧Below w'.heap.size w' w'' from fun w'=>q0cf 2 (by decide) hbz w')
   have HU3:=hj_ (q0c0 gf cf hbx hby hbz hbwh);have HL3:=hj_ (show ∀ w',Calls prog 18 #[.agg #[.int .i64 6,.int .i64 16,.int .i64 6,.int .i64 7,.int .i64 0,.int .i64 0,.int .i64 0,.int .i64 65535,.bool false,.slice none 0 0],.slice none 0 0,.int .i64 wh] w' fun e w''=>e=.returned (.tuple #[.int .i64 wh,.int .i64 0])∧Below w'.heap.size w' w'' from fun w'=>q0cf 3 (by decide) hbwh w')
   have HGv:=hj_ (q00r (q0cj gf cf) (q0br hbx hby hbz hbwh));have HFrm:=hj_ (fun (Ao:Option Addr) (co:Nat) (wk:World) hp hx (ha:shAm.In wk Ao 4 (colA4 x y z wh)) ht hr=>qtn none 0 0 [] [] (some ⟨B1,0,none⟩) 1 1 (q0ce 4 8 gf cf) (some ⟨B2,0,none⟩) 1 1 lampX Ao 4 co (colA4 x y z wh) wk ⟨Sh.In.nil _ _,rfl,fun i h=>absurd h (Nat.not_lt_zero _)⟩ (fun h hh=>by cases hh) (by decide) hp (by decide) hx (by decide) (by decide) (fun x hx=>by
    unfold lampX at hx
    rcases List.mem_cons.1 hx with rfl | hx
    ·decide
    ·cases hx) ha (by decide) (fun a h=>Nat.le_trans (q0bt hbx hby hbz hbwh a h) (by decide)) ht hr)
   clear hx hy hz hmap hmx hwh hwe hbx hby hbz hbwh;have q0:=HQ10.out.at_ (j:=0) rfl
   have q1:=HQ10.out.at_ (j:=1) rfl
   have q2:=HQ10.out.at_ (j:=2) rfl
   go_wp2_with fail;refine (HMx.out _ (HA.out.below HV10.out)).mono ?_;rintro e w11 ⟨v',rfl,hown,hb⟩;obtain ⟨Am,cm,rfl⟩:=qfu hown;have HLv:=hj_ (show Is w11 Am 4 [x,y,z,wh] from ⟨rfl,Sl.of_own hown⟩)
   obtain ⟨gm,om,em,hgm,-⟩:=HLv.out.at1 (k:=0) (by simp)
   subst em;have HGm:=hj_ hgm;have HV11:=hj_ (ht_ HV10.out hb);have HQ11:=hj_ (HQ10.out.below hb HQ10.out.1);clear hown hb q0 q1 q2 HMx hgm HQ10;go_wp2_with fail
   go_loopw [10,73] (fun ov jv wr=>∃ k:Nat,k≤4∧jv=.int .i64 k∧wr.ownsRow w11.heap.size 62 3 ov k (shAm.vs ((colA4 x y z wh).take k))∧Below w11.heap.size w11 wr) (fun _ jv _=>4-(intOf jv).toNat)
   case atStart=>exact ⟨0,Nat.zero_le _,rfl,World.ownsRow_nil _ _ _ _,br_⟩
   case round =>
    obtain ⟨k,hk,rfl,hown,hB⟩:=hrel;obtain ⟨Ao,co,rfl⟩:=qfu hown;have HB:=hj_ hB;have HVr:=hj_ (ht_ HV11.out hB)
    rename World=>V12
    obtain rfl | rfl | rfl | rfl | rfl:k=0∨k=1∨k=2∨k=3∨k=4:=by omega
    ·have p0:V12.cell? ⟨ga,0,none⟩=some (.int .i64 3):=by
      obtain ⟨b1,o1,q1,hq1,p⟩:=HA.out.at1 (k:=0) (by decide)
      injection q1 with q1;injection q1 with q1 q3;subst q1 q3
      rw [Nat.zero_add] at p;exact (HVr.out.cell (p:=⟨ga,0,none⟩) hq1).trans p
     have p1:V12.cell? ⟨gm,om,none⟩=some (.int .i64 x):=by
      obtain ⟨b1,o1,q1,hq1,p⟩:=HLv.out.at1 (k:=0) (by simp)
      injection q1 with q1;injection q1 with q1 q3;subst q1 q3
      exact (hB.cell (p:=⟨gm,om,none⟩) hq1).trans p
     have hz1:ga<V12.heap.size:=by
      obtain ⟨b1,o1,q1,hq1,-⟩:=HA.out.at1 (k:=0) (by decide)
      injection q1 with q1;injection q1 with q1 q3;subst q1 q3
      exact Nat.lt_of_lt_of_le hq1 HVr.out.size
     have hz2:gm<V12.heap.size:=Nat.lt_of_lt_of_le HGm.out hB.size;have HO:=hj_ hown;clear hown hB;simp only [Int.cast_ofNat_Int];go_wp2_with fail;refine (qrj (x:=x) (by have:=HBd.out x (by simp);omega) (by have:=HBd.out x (by simp);omega) V12).mono ?_
     rintro e w12 ⟨rfl,hb⟩;have hown:=qfq HO.out hb;have HB2:=hj_ (ht_ HB.out hb);have hz:=HB2.out.size;generalize hT:sR (x:Rat)=T at *;have HTt:=hj_ hT;clear hb p0 p1 hz1 hz2 hT;go_wp2_with (at_builtin;refine q003 rfl _ _ _ rfl w11.heap.size _ _ 3 32 underlying56 infoAm rfl (by omega) _ 0 (shAm.vs ((colA4 x y z wh).take 0)) rfl hown [.int .i64 1,.int .i64 3,.string T] _ _ _ rfl (by first | rfl | simp) rfl (am_one _ _ _) (by unfold maxLen;omega) (by omega) hz ?_;intro g1 cap w1' hown1 hg1;have HO1:=hj_ hown1;have HG1:=hj_ hg1;clear hown1 hg1)
     go_roundw
     case rel=>exact ⟨1,by omega,by go_num,by rw [← HTt.out] at HO1;exact HO1.out,q1a HB2.out (Nat.le_refl _) hown HG1.out⟩
     case measure=>simp [intOf]
    ·have p0:V12.cell? ⟨ga,1,none⟩=some (.int .i64 4):=by
      obtain ⟨b1,o1,q1,hq1,p⟩:=HA.out.at1 (k:=1) (by decide)
      injection q1 with q1;injection q1 with q1 q3;subst q1 q3
      rw [Nat.zero_add] at p;exact (HVr.out.cell (p:=⟨ga,1,none⟩) hq1).trans p
     have p1:V12.cell? ⟨gm,om+1,none⟩=some (.int .i64 y):=by
      obtain ⟨b1,o1,q1,hq1,p⟩:=HLv.out.at1 (k:=1) (by simp)
      injection q1 with q1;injection q1 with q1 q3;subst q1 q3
      exact (hB.cell (p:=⟨gm,om+1,none⟩) hq1).trans p
     have hz1:ga<V12.heap.size:=by
      obtain ⟨b1,o1,q1,hq1,-⟩:=HA.out.at1 (k:=0) (by decide)
      injection q1 with q1;injection q1 with q1 q3;subst q1 q3
      exact Nat.lt_of_lt_of_le hq1 HVr.out.size
     have hz2:gm<V12.heap.size:=Nat.lt_of_lt_of_le HGm.out hB.size;have HO:=hj_ hown;clear hown hB;simp only [Int.cast_ofNat_Int];go_wp2_with fail;refine (qrj (x:=y) (by have:=HBd.out y (by simp);omega) (by have:=HBd.out y (by simp);omega) V12).mono ?_
     rintro e w12 ⟨rfl,hb⟩;have hown:=qfq HO.out hb;have HB2:=hj_ (ht_ HB.out hb);have hz:=HB2.out.size;generalize hT:sR (y:Rat)=T at *;have HTt:=hj_ hT;clear hb p0 p1 hz1 hz2 hT;go_wp2_with (at_builtin;refine q003 rfl _ _ _ rfl w11.heap.size _ _ 3 32 underlying56 infoAm rfl (by omega) _ 1 (shAm.vs ((colA4 x y z wh).take 1)) rfl hown [.int .i64 1,.int .i64 4,.string T] _ _ _ rfl (by first | rfl | simp) rfl (am_one _ _ _) (by unfold maxLen;omega) (by omega) hz ?_;intro g1 cap w1' hown1 hg1;have HO1:=hj_ hown1;have HG1:=hj_ hg1;clear hown1 hg1)
     go_roundw
     case rel=>exact ⟨2,by omega,by go_num,by rw [← HTt.out] at HO1;exact HO1.out,q1a HB2.out (Nat.le_refl _) hown HG1.out⟩
     case measure=>simp [intOf]
    ·have p0:V12.cell? ⟨ga,2,none⟩=some (.int .i64 5):=by
      obtain ⟨b1,o1,q1,hq1,p⟩:=HA.out.at1 (k:=2) (by decide)
      injection q1 with q1;injection q1 with q1 q3;subst q1 q3
      rw [Nat.zero_add] at p;exact (HVr.out.cell (p:=⟨ga,2,none⟩) hq1).trans p
     have p1:V12.cell? ⟨gm,om+2,none⟩=some (.int .i64 z):=by
      obtain ⟨b1,o1,q1,hq1,p⟩:=HLv.out.at1 (k:=2) (by simp)
      injection q1 with q1;injection q1 with q1 q3;subst q1 q3
      exact (hB.cell (p:=⟨gm,om+2,none⟩) hq1).trans p
     have hz1:ga<V12.heap.size:=by
      obtain ⟨b1,o1,q1,hq1,-⟩:=HA.out.at1 (k:=0) (by decide)
      injection q1 with q1;injection q1 with q1 q3;subst q1 q3
      exact Nat.lt_of_lt_of_le hq1 HVr.out.size
     have hz2:gm<V12.heap.size:=Nat.lt_of_lt_of_le HGm.out hB.size;have HO:=hj_ hown;clear hown hB;simp only [Int.cast_ofNat_Int];go_wp2_with fail;refine (qrj (x:=z) (by have:=HBd.out z (by simp);omega) (by have:=HBd.out z (by simp);omega) V12).mono ?_
     rintro e w12 ⟨rfl,hb⟩;have hown:=qfq HO.out hb;have HB2:=hj_ (ht_ HB.out hb);have hz:=HB2.out.size;generalize hT:sR (z:Rat)=T at *;have HTt:=hj_ hT;clear hb p0 p1 hz1 hz2 hT;go_wp2_with (at_builtin;refine q003 rfl _ _ _ rfl w11.heap.size _ _ 3 32 underlying56 infoAm rfl (by omega) _ 2 (shAm.vs ((colA4 x y z wh).take 2)) rfl hown [.int .i64 1,.int .i64 5,.string T] _ _ _ rfl (by first | rfl | simp) rfl (am_one _ _ _) (by unfold maxLen;omega) (by omega) hz ?_;intro g1 cap w1' hown1 hg1;have HO1:=hj_ hown1;have HG1:=hj_ hg1;clear hown1 hg1)
     go_roundw
     case rel=>exact ⟨3,by omega,by go_num,by rw [← HTt.out] at HO1;exact HO1.out,q1a HB2.out (Nat.le_refl _) hown HG1.out⟩
     case measure=>simp [intOf]
    ·have p0:V12.cell? ⟨ga,3,none⟩=some (.int .i64 6):=by
      obtain ⟨b1,o1,q1,hq1,p⟩:=HA.out.at1 (k:=3) (by decide)
      injection q1 with q1;injection q1 with q1 q3;subst q1 q3
      rw [Nat.zero_add] at p;exact (HVr.out.cell (p:=⟨ga,3,none⟩) hq1).trans p
     have p1:V12.cell? ⟨gm,om+3,none⟩=some (.int .i64 wh):=by
      obtain ⟨b1,o1,q1,hq1,p⟩:=HLv.out.at1 (k:=3) (by simp)
      injection q1 with q1;injection q1 with q1 q3;subst q1 q3
      exact (hB.cell (p:=⟨gm,om+3,none⟩) hq1).trans p
     have hz1:ga<V12.heap.size:=by
      obtain ⟨b1,o1,q1,hq1,-⟩:=HA.out.at1 (k:=0) (by decide)
      injection q1 with q1;injection q1 with q1 q3;subst q1 q3
      exact Nat.lt_of_lt_of_le hq1 HVr.out.size
     have hz2:gm<V12.heap.size:=Nat.lt_of_lt_of_le HGm.out hB.size;have HO:=hj_ hown;clear hown hB;simp only [Int.cast_ofNat_Int];go_wp2_with fail;refine (qrj (x:=wh) (by have:=HBd.out wh (by simp);omega) (by have:=HBd.out wh (by simp);omega) V12).mono ?_
     rintro e w12 ⟨rfl,hb⟩;have hown:=qfq HO.out hb;have HB2:=hj_ (ht_ HB.out hb);have hz:=HB2.out.size;generalize hT:sR (wh:Rat)=T at *;have HTt:=hj_ hT;clear hb p0 p1 hz1 hz2 hT;go_wp2_with (at_builtin;refine q003 rfl _ _ _ rfl w11.heap.size _ _ 3 32 underlying56 infoAm rfl (by omega) _ 3 (shAm.vs ((colA4 x y z wh).take 3)) rfl hown [.int .i64 1,.int .i64 6,.string T] _ _ _ rfl (by first | rfl | simp) rfl (am_one _ _ _) (by unfold maxLen;omega) (by omega) hz ?_;intro g1 cap w1' hown1 hg1;have HO1:=hj_ hown1;have HG1:=hj_ hg1;clear hown1 hg1)
     go_roundw
     case rel=>exact ⟨4,by omega,by go_num,by rw [← HTt.out] at HO1;exact HO1.out,q1a HB2.out (Nat.le_refl _) hown HG1.out⟩
     case measure=>simp [intOf]
    ·have HI:=hj_ (Sh.In.of_own (S:=shAm) (l:=colA4 x y z wh) hown rfl)
     have hRr:=HR2.out.below HVr.out HR2.out.1;have x0:=hRr.at_ (j:=0) rfl
     have x1:=hRr.at_ (j:=1) rfl
     have x2:=hRr.at_ (j:=2) rfl
     have HBr:=hj_ (ht_ HBW.out HVr.out);clear hown hB hRr;simp only [Int.cast_ofNat_Int];go_wp2_with fail;refine (HFrm.out Ao co _ (HPL.out.below HVr.out) (HX.out.below HVr.out) HI.out (HT.out.below HBr.out) (HRn.out.below HBr.out)).mono ?_;rintro e w13 ⟨rr,rfl,A',c',rfl,ho,hb⟩;rw [HGv.out.1];have HIF:=hj_ (Sh.In.of_own ho rfl);have HV13:=hj_ (ht_ HVr.out hb);have HV11b:=hj_ (ht_ HB.out hb);clear ho hb x0 x1 x2 HFrm;obtain ⟨-,-,fr1,fl1⟩:=HGv.out;have hFs:∀ q ∈ frV [] (q0ce 4 8 gf cf) lampX (colA4 x y z wh),q.sl.size≤9223372036854775807:=fun q hq=>by have:=(fr1.2 q hq).2.2;omega
     have HFs:=hj_ (And.intro hFs fl1);have HRaw:=hj_ (fun (at_:Int) (w':World) hp hx (hf:shFm.In w' A' (frV [] (q0ce 4 8 gf cf) lampX (colA4 x y z wh)).length (frV [] (q0ce 4 8 gf cf) lampX (colA4 x y z wh)))=>q05x none 0 0 [] [] (some ⟨B1,0,none⟩) 1 1 (q0ce 4 8 gf cf) (some ⟨B2,0,none⟩) 1 1 lampX A' (frV [] (q0ce 4 8 gf cf) lampX (colA4 x y z wh)).length c' (frV [] (q0ce 4 8 gf cf) lampX (colA4 x y z wh)) 1 at_ w' ⟨Sh.In.nil _ _,rfl,fun i h=>absurd h (Nat.not_lt_zero _)⟩ (fun h hh=>by cases hh) hp (by decide) hx (by decide) (by decide) (fun x hx=>by
      unfold lampX at hx
      rcases List.mem_cons.1 hx with rfl | hx
      ·decide
      ·cases hx) hf (by have:=HFs.out.2;omega) HFs.out.1)
     have hq0:=HRaw.out 3;rw [HU0.out.1,HU0.out.2] at hq0;have HQ0r:=hj_ hq0;have hq1:=HRaw.out 4;rw [HU1.out.1,HU1.out.2] at hq1;have HQ1r:=hj_ hq1;have hq2:=HRaw.out 5;rw [HU2.out.1,HU2.out.2] at hq2;have HQ2r:=hj_ hq2;have hq3:=HRaw.out 6;rw [HU3.out.1,HU3.out.2] at hq3;have HQ3r:=hj_ hq3;clear hq0 hq1 hq2 hq3 hFs fr1 fl1 HRaw HFs HGv HU0 HU1 HU2 HU3;generalize frV [] (q0ce 4 8 gf cf) lampX (colA4 x y z wh)=F at *;have hR13:=HR2.out.below HV13.out HR2.out.1;have x0:=hR13.at_ (j:=0) rfl
     have x1:=hR13.at_ (j:=1) rfl
     have x2:=hR13.at_ (j:=2) rfl
     have z3:=(HBc.out.below HV13.out HBc.out.1).at_ (j:=3) rfl
     clear hR13;go_wp2_with fail;clear x0 x1 x2 z3
     go_loopw [14,104] (fun ov jv wr=>∃ k:Nat,k≤4∧jv=.int .i64 k∧wr.ownsRow w13.heap.size 3 1 ov k (iv (([x,y,z,wh]:List Int).take k))∧Below w13.heap.size w13 wr) (fun _ jv _=>4-(intOf jv).toNat)
     case atStart=>exact ⟨0,Nat.zero_le _,rfl,World.ownsRow_nil _ _ _ _,br_⟩
     case round =>
      obtain ⟨k,hk,rfl,hown,hB⟩:=hrel;obtain ⟨Ao2,co2,rfl⟩:=qfu hown;have HB5:=hj_ hB;have HVs:=hj_ (ht_ HV13.out hB)
      rename World=>V14
      obtain rfl | rfl | rfl | rfl | rfl:k=0∨k=1∨k=2∨k=3∨k=4:=by omega
      ·have HO:=hj_ hown
       clear hown;have hGr:=HGc.out.below HVs.out HGc.out.1;have e0:V14.cell? ⟨gf,0,none⟩=some (.int .i64 3):=hGr.at_ (j:=0) rfl
       have e1:V14.cell? ⟨gf,1,none⟩=some (.int .i64 16):=hGr.at_ (j:=1) rfl
       have e2:V14.cell? ⟨gf,2,none⟩=some (.int .i64 0):=hGr.at_ (j:=2) rfl
       have e3:V14.cell? ⟨gf,3,none⟩=some (.int .i64 1):=hGr.at_ (j:=3) rfl
       have e4:V14.cell? ⟨gf,4,none⟩=some (.int .i64 0):=hGr.at_ (j:=4) rfl
       have e5:V14.cell? ⟨gf,5,none⟩=some (.int .i64 0):=hGr.at_ (j:=5) rfl
       have e6:V14.cell? ⟨gf,6,none⟩=some (.int .i64 0):=hGr.at_ (j:=6) rfl
       have e7:V14.cell? ⟨gf,7,none⟩=some (.int .i64 65535):=hGr.at_ (j:=7) rfl
       have e8:V14.cell? ⟨gf,8,none⟩=some (.bool false):=hGr.at_ (j:=8) rfl
       have e9:V14.cell? ⟨gf,9,none⟩=some (.slice none 0 0):=hGr.at_ (j:=9) rfl
       obtain ⟨W15,hW15⟩:∃ W15,W15=V14.alloc (.cells #[.int .i64 3,.int .i64 16,.int .i64 0,.int .i64 1,.int .i64 0,.int .i64 0,.int .i64 0,.int .i64 65535,.bool false,.slice none 0 0] 52):=⟨_,rfl⟩;have hb15:Below V14.heap.size V14 W15:=by rw [hW15];exact (br_).alloc (Nat.le_refl _) _
       have HE15:=hj_ (show Cells W15 V14.heap.size [.int .i64 3,.int .i64 16,.int .i64 0,.int .i64 1,.int .i64 0,.int .i64 0,.int .i64 0,.int .i64 65535,.bool false,.slice none 0 0] by rw [hW15];exact Cells.fresh V14 [.int .i64 3,.int .i64 16,.int .i64 0,.int .i64 1,.int .i64 0,.int .i64 0,.int .i64 0,.int .i64 65535,.bool false,.slice none 0 0] _)
       have HV15:=hj_ (ht_ HVs.out hb15);have HB15:=hj_ hb15;have HW15:=hj_ hW15;clear hGr hB hW15 hb15;simp only [Int.cast_ofNat_Int]
       go_upto_region 26 with fail
       rw [← HW15.out];clear e0 e1 e2 e3 e4 e5 e6 e7 e8 e9;have e0:=HE15.out.at_ (j:=0) rfl
       have hRr:=HR2.out.below HV15.out HR2.out.1;have x0:=hRr.at_ (j:=0) rfl
       have x1:=hRr.at_ (j:=1) rfl
       have x2:=hRr.at_ (j:=2) rfl
       clear hRr;go_wp2_with fail;refine (HQ0r.out _ (HPL.out.below HV15.out) (HX.out.below HV15.out) (HIF.out.below (ht_ HB5.out HB15.out))).mono ?_;rintro e w16 ⟨rfl,hb⟩;have hE:=HE15.out.below hb HE15.out.1;have HB16:=hj_ ((ht_ HB5.out HB15.out).trans (hb.mono (ht_ HB5.out HB15.out).size));have HV16:=hj_ (ht_ HV15.out hb);have HO16:=hj_ (qfq (qfq HO.out HB15.out) hb);clear e0 x0 x1 x2;have e0:=hE.at_ (j:=0) rfl
       have e1:=hE.at_ (j:=1) rfl
       have e2:=hE.at_ (j:=2) rfl
       have e3:=hE.at_ (j:=3) rfl
       have e4:=hE.at_ (j:=4) rfl
       have e5:=hE.at_ (j:=5) rfl
       have e6:=hE.at_ (j:=6) rfl
       have e7:=hE.at_ (j:=7) rfl
       have e8:=hE.at_ (j:=8) rfl
       have e9:=hE.at_ (j:=9) rfl
       clear hE hb;go_wp2_with fail;refine (HL0.out _).mono ?_;rintro e w17 ⟨rfl,hb⟩;have hown:=qfq HO16.out hb;have HB17:=hj_ (ht_ HB16.out hb);have hz:=HB17.out.size;clear e0 e1 e2 e3 e4 e5 e6 e7 e8 e9 hb;go_wp2_with (at_builtin;refine q003 rfl _ _ _ rfl w13.heap.size _ _ 1 8 underlying49 infoN rfl (by omega) _ 0 (iv (([x,y,z,wh]:List Int).take 0)) rfl hown [.int .i64 x] _ _ _ rfl (by first | rfl | simp) rfl (qf9 _) (by unfold maxLen;omega) (by omega) hz ?_;intro g1 cap w1' hown1 hg1;have HO1:=hj_ hown1;have HG1:=hj_ hg1;clear hown1 hg1)
       go_roundw
       case rel=>exact ⟨1,by omega,by go_num,HO1.out,q1a HB17.out (Nat.le_refl _) hown HG1.out⟩
       case measure=>simp [intOf]
      ·have HO:=hj_ hown
       clear hown;have hGr:=HGc.out.below HVs.out HGc.out.1;have e0:V14.cell? ⟨gf,10,none⟩=some (.int .i64 4):=hGr.at_ (j:=10) rfl
       have e1:V14.cell? ⟨gf,11,none⟩=some (.int .i64 16):=hGr.at_ (j:=11) rfl
       have e2:V14.cell? ⟨gf,12,none⟩=some (.int .i64 2):=hGr.at_ (j:=12) rfl
       have e3:V14.cell? ⟨gf,13,none⟩=some (.int .i64 3):=hGr.at_ (j:=13) rfl
       have e4:V14.cell? ⟨gf,14,none⟩=some (.int .i64 0):=hGr.at_ (j:=14) rfl
       have e5:V14.cell? ⟨gf,15,none⟩=some (.int .i64 0):=hGr.at_ (j:=15) rfl
       have e6:V14.cell? ⟨gf,16,none⟩=some (.int .i64 0):=hGr.at_ (j:=16) rfl
       have e7:V14.cell? ⟨gf,17,none⟩=some (.int .i64 65535):=hGr.at_ (j:=17) rfl
       have e8:V14.cell? ⟨gf,18,none⟩=some (.bool false):=hGr.at_ (j:=18) rfl
       have e9:V14.cell? ⟨gf,19,none⟩=some (.slice none 0 0):=hGr.at_ (j:=19) rfl
       obtain ⟨W15,hW15⟩:∃ W15,W15=V14.alloc (.cells #[.int .i64 4,.int .i64 16,.int .i64 2,.int .i64 3,.int .i64 0,.int .i64 0,.int .i64 0,.int .i64 65535,.bool false,.slice none 0 0] 52):=⟨_,rfl⟩;have hb15:Below V14.heap.size V14 W15:=by rw [hW15];exact (br_).alloc (Nat.le_refl _) _
       have HE15:=hj_ (show Cells W15 V14.heap.size [.int .i64 4,.int .i64 16,.int .i64 2,.int .i64 3,.int .i64 0,.int .i64 0,.int .i64 0,.int .i64 65535,.bool false,.slice none 0 0] by rw [hW15];exact Cells.fresh V14 [.int .i64 4,.int .i64 16,.int .i64 2,.int .i64 3,.int .i64 0,.int .i64 0,.int .i64 0,.int .i64 65535,.bool false,.slice none 0 0] _)
       have HV15:=hj_ (ht_ HVs.out hb15);have HB15:=hj_ hb15;have HW15:=hj_ hW15;clear hGr hB hW15 hb15;simp only [Int.cast_ofNat_Int]
       go_upto_region 26 with fail
       rw [← HW15.out];clear e0 e1 e2 e3 e4 e5 e6 e7 e8 e9;have e0:=HE15.out.at_ (j:=0) rfl
       have hRr:=HR2.out.below HV15.out HR2.out.1;have x0:=hRr.at_ (j:=0) rfl
       have x1:=hRr.at_ (j:=1) rfl
       have x2:=hRr.at_ (j:=2) rfl
       clear hRr;go_wp2_with fail;refine (HQ1r.out _ (HPL.out.below HV15.out) (HX.out.below HV15.out) (HIF.out.below (ht_ HB5.out HB15.out))).mono ?_;rintro e w16 ⟨rfl,hb⟩;have hE:=HE15.out.below hb HE15.out.1;have HB16:=hj_ ((ht_ HB5.out HB15.out).trans (hb.mono (ht_ HB5.out HB15.out).size));have HV16:=hj_ (ht_ HV15.out hb);have HO16:=hj_ (qfq (qfq HO.out HB15.out) hb);clear e0 x0 x1 x2;have e0:=hE.at_ (j:=0) rfl
       have e1:=hE.at_ (j:=1) rfl
       have e2:=hE.at_ (j:=2) rfl
       have e3:=hE.at_ (j:=3) rfl
       have e4:=hE.at_ (j:=4) rfl
       have e5:=hE.at_ (j:=5) rfl
       have e6:=hE.at_ (j:=6) rfl
       have e7:=hE.at_ (j:=7) rfl
       have e8:=hE.at_ (j:=8) rfl
       have e9:=hE.at_ (j:=9) rfl
       clear hE hb;go_wp2_with fail;refine (HL1.out _).mono ?_;rintro e w17 ⟨rfl,hb⟩;have hown:=qfq HO16.out hb;have HB17:=hj_ (ht_ HB16.out hb);have hz:=HB17.out.size;clear e0 e1 e2 e3 e4 e5 e6 e7 e8 e9 hb;go_wp2_with (at_builtin;refine q003 rfl _ _ _ rfl w13.heap.size _ _ 1 8 underlying49 infoN rfl (by omega) _ 1 (iv (([x,y,z,wh]:List Int).take 1)) rfl hown [.int .i64 y] _ _ _ rfl (by first | rfl | simp) rfl (qf9 _) (by unfold maxLen;omega) (by omega) hz ?_;intro g1 cap w1' hown1 hg1;have HO1:=hj_ hown1;have HG1:=hj_ hg1;clear hown1 hg1)
       go_roundw
       case rel=>exact ⟨2,by omega,by go_num,HO1.out,q1a HB17.out (Nat.le_refl _) hown HG1.out⟩
       case measure=>simp [intOf]
      ·have HO:=hj_ hown
       clear hown;have hGr:=HGc.out.below HVs.out HGc.out.1;have e0:V14.cell? ⟨gf,20,none⟩=some (.int .i64 5):=hGr.at_ (j:=20) rfl
       have e1:V14.cell? ⟨gf,21,none⟩=some (.int .i64 16):=hGr.at_ (j:=21) rfl
       have e2:V14.cell? ⟨gf,22,none⟩=some (.int .i64 4):=hGr.at_ (j:=22) rfl
       have e3:V14.cell? ⟨gf,23,none⟩=some (.int .i64 5):=hGr.at_ (j:=23) rfl
       have e4:V14.cell? ⟨gf,24,none⟩=some (.int .i64 0):=hGr.at_ (j:=24) rfl
       have e5:V14.cell? ⟨gf,25,none⟩=some (.int .i64 0):=hGr.at_ (j:=25) rfl
       have e6:V14.cell? ⟨gf,26,none⟩=some (.int .i64 0):=hGr.at_ (j:=26) rfl
       have e7:V14.cell? ⟨gf,27,none⟩=some (.int .i64 65535):=hGr.at_ (j:=27) rfl
       have e8:V14.cell? ⟨gf,28,none⟩=some (.bool false):=hGr.at_ (j:=28) rfl
       have e9:V14.cell? ⟨gf,29,none⟩=some (.slice none 0 0):=hGr.at_ (j:=29) rfl
       obtain ⟨W15,hW15⟩:∃ W15,W15=V14.alloc (.cells #[.int .i64 5,.int .i64 16,.int .i64 4,.int .i64 5,.int .i64 0,.int .i64 0,.int .i64 0,.int .i64 65535,.bool false,.slice none 0 0] 52):=⟨_,rfl⟩;have hb15:Below V14.heap.size V14 W15:=by rw [hW15];exact (br_).alloc (Nat.le_refl _) _
       have HE15:=hj_ (show Cells W15 V14.heap.size [.int .i64 5,.int .i64 16,.int .i64 4,.int .i64 5,.int .i64 0,.int .i64 0,.int .i64 0,.int .i64 65535,.bool false,.slice none 0 0] by rw [hW15];exact Cells.fresh V14 [.int .i64 5,.int .i64 16,.int .i64 4,.int .i64 5,.int .i64 0,.int .i64 0,.int .i64 0,.int .i64 65535,.bool false,.slice none 0 0] _)
       have HV15:=hj_ (ht_ HVs.out hb15);have HB15:=hj_ hb15;have HW15:=hj_ hW15;clear hGr hB hW15 hb15;simp only [Int.cast_ofNat_Int]
       go_upto_region 26 with fail
       rw [← HW15.out];clear e0 e1 e2 e3 e4 e5 e6 e7 e8 e9;have e0:=HE15.out.at_ (j:=0) rfl
       have hRr:=HR2.out.below HV15.out HR2.out.1;have x0:=hRr.at_ (j:=0) rfl
       have x1:=hRr.at_ (j:=1) rfl
       have x2:=hRr.at_ (j:=2) rfl
       clear hRr;go_wp2_with fail;refine (HQ2r.out _ (HPL.out.below HV15.out) (HX.out.below HV15.out) (HIF.out.below (ht_ HB5.out HB15.out))).mono ?_;rintro e w16 ⟨rfl,hb⟩;have hE:=HE15.out.below hb HE15.out.1;have HB16:=hj_ ((ht_ HB5.out HB15.out).trans (hb.mono (ht_ HB5.out HB15.out).size));have HV16:=hj_ (ht_ HV15.out hb);have HO16:=hj_ (qfq (qfq HO.out HB15.out) hb);clear e0 x0 x1 x2;have e0:=hE.at_ (j:=0) rfl
       have e1:=hE.at_ (j:=1) rfl
       have e2:=hE.at_ (j:=2) rfl
       have e3:=hE.at_ (j:=3) rfl
       have e4:=hE.at_ (j:=4) rfl
       have e5:=hE.at_ (j:=5) rfl
       have e6:=hE.at_ (j:=6) rfl
       have e7:=hE.at_ (j:=7) rfl
       have e8:=hE.at_ (j:=8) rfl
       have e9:=hE.at_ (j:=9) rfl
       clear hE hb;go_wp2_with fail;refine (HL2.out _).mono ?_;rintro e w17 ⟨rfl,hb⟩;have hown:=qfq HO16.out hb;have HB17:=hj_ (ht_ HB16.out hb);have hz:=HB17.out.size;clear e0 e1 e2 e3 e4 e5 e6 e7 e8 e9 hb;go_wp2_with (at_builtin;refine q003 rfl _ _ _ rfl w13.heap.size _ _ 1 8 underlying49 infoN rfl (by omega) _ 2 (iv (([x,y,z,wh]:List Int).take 2)) rfl hown [.int .i64 z] _ _ _ rfl (by first | rfl | simp) rfl (qf9 _) (by unfold maxLen;omega) (by omega) hz ?_;intro g1 cap w1' hown1 hg1;have HO1:=hj_ hown1;have HG1:=hj_ hg1;clear hown1 hg1)
       go_roundw
       case rel=>exact ⟨3,by omega,by go_num,HO1.out,q1a HB17.out (Nat.le_refl _) hown HG1.out⟩
       case measure=>simp [intOf]
      ·have HO:=hj_ hown
       clear hown;have hGr:=HGc.out.below HVs.out HGc.out.1;have e0:V14.cell? ⟨gf,30,none⟩=some (.int .i64 6):=hGr.at_ (j:=30) rfl
       have e1:V14.cell? ⟨gf,31,none⟩=some (.int .i64 16):=hGr.at_ (j:=31) rfl
       have e2:V14.cell? ⟨gf,32,none⟩=some (.int .i64 6):=hGr.at_ (j:=32) rfl
       have e3:V14.cell? ⟨gf,33,none⟩=some (.int .i64 7):=hGr.at_ (j:=33) rfl
       have e4:V14.cell? ⟨gf,34,none⟩=some (.int .i64 0):=hGr.at_ (j:=34) rfl
       have e5:V14.cell? ⟨gf,35,none⟩=some (.int .i64 0):=hGr.at_ (j:=35) rfl
       have e6:V14.cell? ⟨gf,36,none⟩=some (.int .i64 0):=hGr.at_ (j:=36) rfl
       have e7:V14.cell? ⟨gf,37,none⟩=some (.int .i64 65535):=hGr.at_ (j:=37) rfl
       have e8:V14.cell? ⟨gf,38,none⟩=some (.bool false):=hGr.at_ (j:=38) rfl
       have e9:V14.cell? ⟨gf,39,none⟩=some (.slice none 0 0):=hGr.at_ (j:=39) rfl
       obtain ⟨W15,hW15⟩:∃ W15,W15=V14.alloc (.cells #[.int .i64 6,.int .i64 16,.int .i64 6,.int .i64 7,.int .i64 0,.int .i64 0,.int .i64 0,.int .i64 65535,.bool false,.slice none 0 0] 52):=⟨_,rfl⟩;have hb15:Below V14.heap.size V14 W15:=by rw [hW15];exact (br_).alloc (Nat.le_refl _) _
       have HE15:=hj_ (show Cells W15 V14.heap.size [.int .i64 6,.int .i64 16,.int .i64 6,.int .i64 7,.int .i64 0,.int .i64 0,.int .i64 0,.int .i64 65535,.bool false,.slice none 0 0] by rw [hW15];exact Cells.fresh V14 [.int .i64 6,.int .i64 16,.int .i64 6,.int .i64 7,.int .i64 0,.int .i64 0,.int .i64 0,.int .i64 65535,.bool false,.slice none 0 0] _)
       have HV15:=hj_ (ht_ HVs.out hb15);have HB15:=hj_ hb15;have HW15:=hj_ hW15;clear hGr hB hW15 hb15;simp only [Int.cast_ofNat_Int]
       go_upto_region 26 with fail
       rw [← HW15.out];clear e0 e1 e2 e3 e4 e5 e6 e7 e8 e9;have e0:=HE15.out.at_ (j:=0) rfl
       have hRr:=HR2.out.below HV15.out HR2.out.1;have x0:=hRr.at_ (j:=0) rfl
       have x1:=hRr.at_ (j:=1) rfl
       have x2:=hRr.at_ (j:=2) rfl
       clear hRr;go_wp2_with fail;refine (HQ3r.out _ (HPL.out.below HV15.out) (HX.out.below HV15.out) (HIF.out.below (ht_ HB5.out HB15.out))).mono ?_;rintro e w16 ⟨rfl,hb⟩;have hE:=HE15.out.below hb HE15.out.1;have HB16:=hj_ ((ht_ HB5.out HB15.out).trans (hb.mono (ht_ HB5.out HB15.out).size));have HV16:=hj_ (ht_ HV15.out hb);have HO16:=hj_ (qfq (qfq HO.out HB15.out) hb);clear e0 x0 x1 x2;have e0:=hE.at_ (j:=0) rfl
       have e1:=hE.at_ (j:=1) rfl
       have e2:=hE.at_ (j:=2) rfl
       have e3:=hE.at_ (j:=3) rfl
       have e4:=hE.at_ (j:=4) rfl
       have e5:=hE.at_ (j:=5) rfl
       have e6:=hE.at_ (j:=6) rfl
       have e7:=hE.at_ (j:=7) rfl
       have e8:=hE.at_ (j:=8) rfl
       have e9:=hE.at_ (j:=9) rfl
       clear hE hb;go_wp2_with fail;refine (HL3.out _).mono ?_;rintro e w17 ⟨rfl,hb⟩;have hown:=qfq HO16.out hb;have HB17:=hj_ (ht_ HB16.out hb);have hz:=HB17.out.size;clear e0 e1 e2 e3 e4 e5 e6 e7 e8 e9 hb;go_wp2_with (at_builtin;refine q003 rfl _ _ _ rfl w13.heap.size _ _ 1 8 underlying49 infoN rfl (by omega) _ 3 (iv (([x,y,z,wh]:List Int).take 3)) rfl hown [.int .i64 wh] _ _ _ rfl (by first | rfl | simp) rfl (qf9 _) (by unfold maxLen;omega) (by omega) hz ?_;intro g1 cap w1' hown1 hg1;have HO1:=hj_ hown1;have HG1:=hj_ hg1;clear hown1 hg1)
       go_roundw
       case rel=>exact ⟨4,by omega,by go_num,HO1.out,q1a HB17.out (Nat.le_refl _) hown HG1.out⟩
       case measure=>simp [intOf]
      ·have HI2:=hj_ (show Is V14 Ao2 4 [x,y,z,wh] from ⟨rfl,Sl.of_own hown⟩)
       clear hown hB;simp only [Int.cast_ofNat_Int];go_wp2_with fail;refine (q0bn (some ⟨ga,0,none⟩) ca Ao2 co2 x y z wh _ (HA.out.below HVs.out) HCa.out.1 HI2.out HBd.out).mono ?_;rintro e w18 ⟨rfl,hb⟩;rw [HEx.out.1,HEx.out.2.1,HEx.out.2.2];have hz18:=ht_ HVs.out hb;have hz11:=HV13.out.size;have hB18:=(ht_ HV11b.out HB5.out).trans (hb.mono (ht_ HV11b.out HB5.out).size);obtain ⟨W19,hW19⟩:∃ W19,W19=w18.alloc (.cells #[.int .i64 r,.int .i64 g,.int .i64 b] 53):=⟨_,rfl⟩;have hb19:Below w18.heap.size w18 W19:=by rw [hW19];exact (br_).alloc (Nat.le_refl _) _
       have hQ19:Cells W19 w18.heap.size [.int .i64 r,.int .i64 g,.int .i64 b]:=by rw [hW19];exact Cells.fresh w18 [.int .i64 r,.int .i64 g,.int .i64 b] _
       have hQ7:=(HQ11.out.below hB18 HQ11.out.1).below hb19 (HQ11.out.below hB18 HQ11.out.1).1;have hW:=HBW.out.trans ((ht_ hz18 hb19).mono HBW.out.size);have HWB:=hj_ (ht_ HB0.out hW);have HW19:=hj_ hW19;clear hz18 hz11 hB18 hb19 hW19 hW hb
       go_upto_region 33 with fail
       rw [← HW19.out];have e0:=hQ19.at_ (j:=0) rfl
       have e1:=hQ19.at_ (j:=1) rfl
       have e2:=hQ19.at_ (j:=2) rfl
       have x0:=hQ7.at_ (j:=0) rfl
       have x1:=hQ7.at_ (j:=1) rfl
       have x2:=hQ7.at_ (j:=2) rfl
       have heq:=q0c4 r g b W19;clear hQ19 hQ7;go_wp2_with fail;go_ret;exact ⟨rfl,HWB.out⟩
end

end Go.Proofs.YtmcbkdlfhffphaaGreatDoor
