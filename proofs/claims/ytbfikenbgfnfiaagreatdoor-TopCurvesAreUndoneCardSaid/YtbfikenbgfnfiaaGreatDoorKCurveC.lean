/- Lemmas and contracts of functions, joined for the claim: CIter, CSlope, CInv, CInv2, CAwake. -/
import Derived.Test.YtbfikenbgfnfiaaGreatDoorKCurveB
import Derived.Test.YtbfikenbgfnfiaaGreatDoorKProgA
import Derived.Test.YtbfikenbgfnfiaaGreatDoorKWord
import Derived.StillTailTactics
import Derived.Laws.EntriesVeiled
namespace Go.Proofs.YtbfikenbgfnfiaaGreatDoor
set_option maxHeartbeats 32000000
open _root_.Go.Proofs.Tryz

section
open Go.RowKit Go.Shelf
attribute [local go_sem] Oper.semAt_some
theorem q7z {n k:Nat} (h:k<n):(List.finRange n).take (k+1)=(List.finRange n).take k ++ [⟨k,h⟩]:=by
 rw [List.take_succ_eq_append_getElem (by simpa using h)]
 simp
def ptV (q:PT):Value:=.agg #[.int .i64 q.1,.int .i64 q.2]
def pX (l:List PT) (k:Nat):PT:=l.getD k (0,0)
theorem pX_at {l:List PT} {k:Nat} (h:k<l.length):pX l k=l[k]:=qa3 h
def prV (l:List PT) (k:Nat):Array Value:=#[ptV (pX l k),ptV (pX l (k+1))]
set_option maxRecDepth 100000 in
theorem qgf (n:Nat) (hn:1≤n) (y0 Bs n₀:Nat) (A:Option Addr) (c:Nat) (l:List PT) (hlen:l.length≤16) (J Jx:List (Fin (l.length-1))→World→Prop)
  (W:World) (hJa:AbidesFrom W.heap.size J)
  (hY:∀ pre (x:Fin (l.length-1)) W,J pre W→pre.length<l.length-1→YieldAt Fence.wide (n-1) prog y0 (prV l x) W fun e W' =>
   (e=.returned (.bool true)∧J (pre ++ [x]) W'∧KpR n₀ 99 W W')∨(e=.returned (.bool false)∧Jx (pre ++ [x]) W'))
  (_:n₀≤W.heap.size) (hBs:Boxed W Bs 99 (.slice A l.length c))
  (hcell:∀ k (hk:k<l.length),∃ b o,A=some ⟨b,o,none⟩∧b<n₀∧(W.cell? ⟨b,o+k*2,none⟩=some (.int .i64 l[k].1)∧W.cell? ⟨b,o+k*2+1,none⟩=some (.int .i64 l[k].2))) (h0:J [] W) :
  CallsIn Fence.wide n prog 243 #[.func (.yield y0) #[] #[],.pointer (some ⟨Bs,0,none⟩)] W fun e W'=>(∃ v,e=.returned v) ∧
   ((∃ ys,ys=List.finRange (l.length-1)∧J ys W')∨(∃ pre,pre <+: List.finRange (l.length-1)∧Jx pre W')):=by
 have HC:=Lib.hid hcell;have HY:=Lib.hid hY;have HJA:=Lib.hid hJa;clear hcell hY hJa;have hc0:=hBs.cell;refine callsIn_of_wp func243 rfl trivial ?_ rfl;simp only [ntmps243,List.size_toArray,List.length_cons,List.length_nil,Nat.reduceAdd,Nat.reduceSub,Array.replicate_succ,Array.replicate_zero,List.push_toArray,List.append_toArray,List.nil_append,List.cons_append]
 gi_wp2
 gi_loopw [3] (fun i wr=>∃ k:Nat,(k+1≤l.length∨k=0)∧i=.int .i64 ((k+1:Nat):Int)∧J ((List.finRange (l.length-1)).take k) wr∧Boxed wr Bs 99 (.slice A l.length c)∧Below n₀ W wr∧W.heap.size≤wr.heap.size) (fun i _=>l.length-(intOf i).toNat)
 case atStart=>exact ⟨0,.inr rfl,rfl,by simpa using h0,hBs,Below.refl _ _,Nat.le_refl _⟩
 case round =>
  clear hc0;obtain ⟨k,hk,rfl,hJ,hB,hb,hsz⟩:=hrel;have HB:=Lib.hid hB;have HJ:=Lib.hid hJ;have Hb:=Lib.hid hb
  by_cases hlt:k+1<l.length
  ·have hc0:=hB.cell
   obtain ⟨b,o,rfl,hbl,hp⟩:=HC.out k (by omega)
   obtain ⟨q0,q1⟩:W.cell? ⟨b,o+(k+1)*2,none⟩=some (.int .i64 l[k+1].1)∧W.cell? ⟨b,o+(k+1)*2+1,none⟩=some (.int .i64 l[k+1].2):=by
    obtain ⟨b',o',e,_,h2⟩:=HC.out (k+1) hlt
    injection e with e
    injection e with e1 e2
    subst e1;subst e2;exact h2
   obtain ⟨p0,p1⟩:=hp;have p0:=(hb.cell (p:=⟨b,o+k*2,none⟩) hbl).trans p0;have p1:=(hb.cell (p:=⟨b,o+k*2+1,none⟩) hbl).trans p1;have q0:=(hb.cell (p:=⟨b,o+(k+1)*2,none⟩) hbl).trans q0;have q1:=(hb.cell (p:=⟨b,o+(k+1)*2+1,none⟩) hbl).trans q1;have hfin:k<l.length-1:=by omega
   have Hs:=Lib.hid (q7z hfin);have hgB:wr.grownBy wr.drew none:=⟨rfl,rfl,rfl,Nat.le_refl _,fun _ _ _=>rfl⟩
   have HJ2:=Lib.hid (HJA.out _ _ _ none hJ hgB (fun r e=>by cases e))
   have HB2:=Lib.hid (show Boxed wr.drew Bs 99 (.slice (some ⟨b,o,none⟩) l.length c) from hB)
   have Hb2:=Lib.hid (show Below n₀ W wr.drew from hb.drew)
   have Hsz:=Lib.hid hsz;have hYk:YieldAt Fence.wide (n-1) prog y0 (prV l k) wr.drew _:=HY.out ((List.finRange (l.length-1)).take k) ⟨k,hfin⟩ wr.drew HJ2.out (by simp;omega)
   have hpr:prV l k=#[.agg #[.int .i64 (l[k]'(by omega)).1,.int .i64 (l[k]'(by omega)).2],.agg #[.int .i64 l[k+1].1,.int .i64 l[k+1].2]]:=by
    unfold prV ptV;rw [pX_at (show k<l.length by omega),pX_at hlt]
   rw [hpr] at hYk;have u0:(0:Int)≤(k:Int):=by omega
   have u1:(k:Int)<(l.length:Int):=by omega
   have u2:(k:Int)+1<(l.length:Int):=by omega
   have u3:(0:Int)≤(k:Int)+1:=by omega
   have u4:IntKind.i64.wrap ((k:Int)+1-1)=(k:Int):=by rw [Int.add_sub_cancel];exact IntWalk.i64_in _ (by omega)
   have u5:IntKind.i64.wrap (k:Int)=(k:Int):=IntWalk.i64_in _ (by omega)
   clear hJ hB hb hgB hpr;generalize (l[k]'(by omega)).1=X at *
   generalize (l[k]'(by omega)).2=Y at *
   generalize l[k+1].1=X2 at *;generalize l[k+1].2=Y2 at *;obtain ⟨fn,tmps,assign,body,hy,hRd⟩:=hYk
   gi_wp2
   refine qzz 10 (by kernel_rfl) (by kernel_rfl) (by kernel_rfl) ?_
   simp only [List.take_succ_cons,List.take_zero,List.drop_succ_cons,List.drop_zero];refine Shut.out ?_
   repeat (refine qaz (fun K hK=>?_);go_simp;refine hK _ ?_;clear hK K)
   refine qay ?_;change wpListIn _ _ _ _ _ _ _ wr.drew
   gi_wp2
   refine hRd.mono ?_;clear hRd hy;rintro e W3 (⟨rfl,hJ3,hk3⟩ | ⟨rfl,hJx3⟩)
   ·gi_wp2
    go_roundw
    case rel =>
     have h3:=hk3.2 Bs _ HB2.out;refine ⟨k+1,.inl (by omega),by go_num,by rw [Hs.out];exact hJ3,h3,Hb2.out.trans hk3.1,Nat.le_trans Hsz.out hk3.1.size⟩
    case measure=>first | (simp [intOf];omega) | simp [intOf]
   ·gi_wp2
    refine bodyPost_ret (results_none rfl _ _ _) rfl ?_;refine ⟨⟨_,rfl⟩,.inr ⟨_,?_,hJx3⟩⟩;rw [← Hs.out];exact List.take_prefix _ _
  ·have e:(List.finRange (l.length-1)).take k=List.finRange (l.length-1):=List.take_of_length_le (by simp;omega)
   rw [e] at HJ;have u2:¬ ((k:Int)+1<(l.length:Int)):=by omega
   have hc0:=hB.cell
   gi_wp2
   go_end0
   first | exact HJ.out | exact .inl HJ.out | exact ⟨⟨_,rfl⟩,.inl HJ.out⟩ | exact ⟨⟨_,rfl⟩,.inl ⟨_,rfl,HJ.out⟩⟩
theorem qgg (n:Nat) (A:Option Addr) (len c:Nat) (w:World) :
  CallsIn Fence.wide n prog 166 #[.slice A len c] w fun e w'=>e=.returned (.func (.func 243) #[] #[.pointer (some ⟨w.heap.size,0,none⟩)])∧w' = w.alloc (.cells #[.slice A len c] 99):=by
 refine callsIn_of_wp func166 rfl trivial ?_ rfl;simp only [ntmps166,List.size_toArray,List.length_cons,List.length_nil,Nat.reduceAdd,Nat.reduceSub,Array.replicate_succ,Array.replicate_zero,List.push_toArray,List.append_toArray,List.nil_append,List.cons_append]
 gi_wp2
 go_ret;exact ⟨rfl,rfl⟩
theorem qgh (n:Nat) (hn:1≤n) (Bs n₀:Nat) (A:Option Addr) (c:Nat) (l:List PT) (hlen:l.length≤16) (w:World) (hn₀:n₀≤w.heap.size)
  (hBs:Boxed w Bs 99 (.slice A l.length c))
  (hcell:∀ k (hk:k<l.length),∃ b o,A=some ⟨b,o,none⟩∧b<n₀∧(w.cell? ⟨b,o+k*2,none⟩=some (.int .i64 l[k].1)∧w.cell? ⟨b,o+k*2+1,none⟩=some (.int .i64 l[k].2))) :
  SeqStopsK Fence.wide n prog 243 #[.pointer (some ⟨Bs,0,none⟩)] (fun x:Fin (l.length-1)=>prV l x) (KpR n₀ 99) (fun ys=>ys=List.finRange (l.length-1)) (fun pre=>pre <+: List.finRange (l.length-1)) (l.length-1) w:=fun y J Jx W hW hJ _ hY h0 =>
 qgf n hn y Bs n₀ A c l hlen J Jx W hJ hY (Nat.le_trans hn₀ hW.size) ((hW.block Bs hBs.lt).trans hBs) (fun k hk=>by
  obtain ⟨b,o,e,hb,h1⟩:=hcell k hk;have hb':=Nat.lt_of_lt_of_le hb hn₀;exact ⟨b,o,e,hb,qiz hb' h1 hW⟩) h0
end

section
open Go.RowKit Go.Shelf
attribute [local go_sem] Oper.semAt_some
def upL (l:List PT) (pre:List (Fin (l.length-1))):Bool:=pre.foldl (fun u (x:Fin (l.length-1))=>u && decide ((pX l x).2<(pX l (x+1)).2)) true
def dnL (l:List PT) (pre:List (Fin (l.length-1))):Bool:=pre.foldl (fun u (x:Fin (l.length-1))=>u && decide ((pX l (x+1)).2<(pX l x).2)) true
theorem qy7 (l:List PT) (pre:List (Fin (l.length-1))) (x:Fin (l.length-1)):upL l (pre ++ [x])=(upL l pre && decide ((pX l x).2<(pX l (x+1)).2)):=by unfold upL;rw [List.foldl_append];rfl
theorem q5x (l:List PT) (pre:List (Fin (l.length-1))) (x:Fin (l.length-1)):dnL l (pre ++ [x])=(dnL l pre && decide ((pX l (x+1)).2<(pX l x).2)):=by unfold dnL;rw [List.foldl_append];rfl
theorem qy6 (l:List PT):upL l (List.finRange (l.length-1))=upY l∧dnL l (List.finRange (l.length-1))=downY l:=by
 have h:∀ k,k≤l.length-1→upL l ((List.finRange (l.length-1)).take k)=upY (l.take (k+1))∧dnL l ((List.finRange (l.length-1)).take k)=downY (l.take (k+1)):=by
  intro k
  induction k with
  | zero=>intro _;exact ⟨by rw [(up_one l).1];rfl,by rw [(up_one l).2];rfl⟩
  | succ k ih =>
   intro hk;obtain ⟨a,b⟩:=ih (by omega)
   rw [q7z (show k<l.length-1 by omega),qy7,q5x,a,b,qyd (show k+1<l.length by omega),q67 (show k+1<l.length by omega)]
   simp only [pX_at (show k<l.length by omega),pX_at (show k+1<l.length by omega),and_self]
 have:=h (l.length-1) (Nat.le_refl _)
 rw [List.take_of_length_le (by simp),List.take_of_length_le (by omega)] at this
 exact this
def SlJ (w:World) (u d:Bool) (W:World):Prop:=(Boxed W w.heap.size 4 (.bool u)∧Boxed W (w.heap.size+1) 4 (.bool d))∧Below w.heap.size w W
theorem qpy (l:List PT) (w:World) (B:Nat) (h:w.heap.size≤B):OwnFrom B (fun (pre:List (Fin (l.length-1))) W=>SlJ w (upL l pre) (dnL l pre) W) :=
 OwnFrom.and (Own.from (fun (_:List (Fin (l.length-1))) _ _ _ hs hg hr=>⟨Boxed.own hs.1 hg hr,Boxed.own hs.2 hg hr⟩) _) (ownFrom_below (Nat.le_refl _) h)
def PAt (W:World) (P:Nat) (x y:Int):Prop:=W.heap[P]? = some (.cells #[.int .i64 x,.int .i64 y] 104 (0,0))
theorem qgq (P:Nat) (x y:Int):Own (fun (_:Unit) W=>PAt W P x y):=fun _ _ _ _ hs hg hr=>by
 refine (hg.block P (Array.getElem?_eq_some_iff.1 hs).1 fun e=>?_).trans hs
 obtain ⟨o,ho,hc⟩:=hr P e.symm;rw [show _=_ from hs] at ho
 cases ho
 simp [Obj.isCells] at hc
set_option maxRecDepth 100000 in
theorem q3y (A:Option Addr) (n c:Nat) (l:List PT) (w:World) (hl:shP.In w A n l) (h16:l.length≤16) :
  Calls prog 108 #[.slice A n c] w fun e w'=>e=.returned (.int .i64 (slC l))∧Below w.heap.size w w':=by
 obtain ⟨rfl,_⟩:=id hl;have HL:=Lib.hid hl;obtain ⟨E,hE⟩:∃ E,slC l=E:=⟨_,rfl⟩;rw [hE];have HE:=Lib.hid hE;clear hE hl;refine (callsIn_wide (n:=5)).1 ?_;refine callsIn_of_wp_marks func108 rfl trivial ?_ rfl;simp only [ntmps108,List.size_toArray,List.length_cons,List.length_nil,Nat.reduceAdd,Nat.reduceSub,Array.replicate_succ,Array.replicate_zero,List.push_toArray,List.append_toArray,List.nil_append,List.cons_append]
 gi_wp2_with (refine ⟨trivial,?_⟩;gi_at_call 166;refine (qgg _ _ _ _ _).mono ?_;rintro e w' ⟨rfl,rfl⟩)
 have hcell:∀ k (hk:k<l.length),∃ b o,A=some ⟨b,o,none⟩∧b<w.heap.size∧(w.cell? ⟨b,o+k*2,none⟩=some (.int .i64 l[k].1)∧w.cell? ⟨b,o+k*2+1,none⟩=some (.int .i64 l[k].2)):=fun k hk=>by
  obtain ⟨b,o,e,hb,h⟩:=pt_at HL.out (by omega)
  exact ⟨b,o,e,hb,h k hk⟩
 have bU:=Boxed.new w 4 (.bool true);have bD:=Boxed.new (w.alloc (.cells #[.bool true] 4)) 4 (.bool true);have bN:=Boxed.new ((w.alloc (.cells #[.bool true] 4)).alloc (.cells #[.bool true] 4)) 99 (.slice A l.length c);rw [World.size_alloc] at bD;rw [World.size_alloc,World.size_alloc] at bN;have hB1:Below w.heap.size w (w.alloc (.cells #[.bool true] 4)):=(Below.refl _ w).alloc (Nat.le_refl _) _;have hB2:=hB1.alloc hB1.size (.cells #[.bool true] 4);have hB3:=hB2.alloc hB2.size (.cells #[.slice A l.length c] 99);refine wpIn_rangeFunc_ownH rfl (by omega) (gf:=243) (lb:=#[.pointer (some ⟨w.heap.size+1+1,0,none⟩)]) rfl trivial (enters_of func243 (by kernel_rfl) rfl)
  (qgh 4 (by omega) (w.heap.size+1+1) w.heap.size A c l h16 _ hB3.size bN (fun k hk=>by
   obtain ⟨b,o,e,hb,h⟩:=hcell k hk;exact ⟨b,o,e,hb,qiz hb h hB3⟩)) KpR.t (KpR.b hB3.size) (Below.refl _ _) (fun _=>rfl)
  (fun pre W=>SlJ w (upL l pre) (dnL l pre) W)
  (fun _ _ _=>False)
  (qpy l w _ hB3.size)
  (fun _ _ _ _ _ hs _ _=>hs)
  ⟨⟨(bU.alloc _).alloc _,bD.alloc _⟩,hB3⟩
  (fun x a' W=>∃ P,a' = { tmps:=#[.slice A l.length c,undef,.int .i64 0,.pointer (some ⟨w.heap.size,0,none⟩),.pointer (some ⟨w.heap.size+1,0,none⟩),.pointer (some ⟨P,0,none⟩),.pointer (some ⟨P+1,0,none⟩),.slice A l.length c,.func (.func 243) #[] #[.pointer (some ⟨w.heap.size+1+1,0,none⟩)],(.agg #[.int .i64 (pX l x).1,.int .i64 (pX l x).2]),(.agg #[.int .i64 (pX l (x+1)).1,.int .i64 (pX l (x+1)).2]),undef,undef,undef,undef,undef,undef,undef,undef,undef,undef,undef,undef,undef,undef,undef,undef,undef,undef,undef,undef],defers:=[] }∧PAt W P (pX l x).1 (pX l x).2∧PAt W (P+1) (pX l (x+1)).1 (pX l (x+1)).2)
  ?own ?assign ?body ?done ?stop
 case own =>
  intro x a';exact Own.from (fun s A' B' row hs hg hr=>hs.imp fun P h=>⟨h.1,qgq P _ _ () A' B' row h.2.1 hg hr,qgq (P+1) _ _ () A' B' row h.2.2 hg hr⟩) _
 case assign =>
  intro lp pre x W K hI hK;have hsz:=hI.2.size;have hI2:=fun o=>(qpy l w _ hB3.size).alloc o hI
  dsimp only [prV,ptV]
  gi_wp2
  have hk1:=(KpR.refl w.heap.size 99 W).alloc hsz (.cells #[.int .i64 (pX l x).1,.int .i64 (pX l x).2] 104);have hk2:=hk1.alloc (by simp;omega) (.cells #[.int .i64 (pX l (x+1)).1,.int .i64 (pX l (x+1)).2] 104)
  exact hK _ _ (((KeepsOthers.alloc W _).trans (KeepsOthers.alloc _ _)).from _) hk2 ((qpy l w _ hB3.size).alloc _ (hI2 _)) ⟨W.heap.size,rfl,by
   have h1:=World.alloc_heap_new W (.cells #[.int .i64 (pX l x).1,.int .i64 (pX l x).2] 104);show (World.alloc _ _).heap[W.heap.size]? = _
   rw [Below.heap_alloc _ _ _ (by simp)]
   exact h1,by
   have h1:=World.alloc_heap_new (W.alloc (.cells #[.int .i64 (pX l x).1,.int .i64 (pX l x).2] 104)) (.cells #[.int .i64 (pX l (x+1)).1,.int .i64 (pX l (x+1)).2] 104);rw [World.size_alloc] at h1;exact h1⟩
 case body =>
  rintro lp pre x a' W hlp hrec ⟨⟨hu,hd⟩,hB⟩ ⟨P,rfl,hP,hQ⟩ hlt;have HU:=Lib.hid (qy7 l pre x);have HD:=Lib.hid (q5x l pre x);generalize (pX l x).1=X at *;generalize (pX l x).2=Y at *;generalize (pX l (x+1)).1=X2 at *;generalize (pX l (x+1)).2=Y2 at *;generalize upL l pre=u at *;generalize dnL l pre=d at *;have cU:=hu.cell;have cD:=hd.cell;have fU:=hu.frozen;have fD:=hd.frozen;have p1:W.cell? ⟨P,1,none⟩=some (.int .i64 Y):=cell_of_row W _ 1 _ _ _ hP;have q1:W.cell? ⟨P+1,1,none⟩=some (.int .i64 Y2):=cell_of_row W _ 1 _ _ _ hQ
  cases u <;> cases d
  all_goals
   gi_wp2
   refine ⟨((KeepsOthers.setCell W _ _).trans (KeepsOthers.setCell _ _ _)).from _,((KpR.refl w.heap.size 99 W).set hu (by decide) (Nat.le_refl _) _).set (hd.other (by omega) _) (by decide) (Nat.le_succ _) _,?_⟩
   show SlJ w (upL l (pre ++ [x])) (dnL l (pre ++ [x])) _
   rw [HU.out,HD.out];exact ⟨⟨(hu.set _).other (by omega) _,(hd.other (by omega) _).set _⟩,(hB.setCell (p:=⟨w.heap.size,0,none⟩) (Nat.le_refl _) _).setCell (p:=⟨w.heap.size+1,0,none⟩) (Nat.le_succ _) _⟩
 case done =>
  rintro D ys W hD rfl ⟨⟨hu,hd⟩,hB⟩ hK;rw [(qy6 l).1] at hu;rw [(qy6 l).2] at hd;have hE:(if upY l then (1:Int) else if downY l then -1 else 0)=E:=HE.out
  generalize upY l=u at *;generalize downY l=d at *;have cU:=hu.cell;have cD:=hd.cell;have hBB:=Lib.hid (hB.trans (belowK_b (w:=w) (Nat.le_refl _) W D _ (.deferred none) (by simp at hD;omega) hK rfl rfl))
  cases u <;> cases d <;> simp only [if_true,if_false,Bool.false_eq_true] at hE <;> subst hE
  all_goals
   gi_wp2
   refine ⟨by simp,.inl ⟨_,_,rfl,run_takeDeferred hK,?_⟩⟩
   refine ⟨_,results_tmp rfl _ _ _,?_⟩;exact ⟨rfl,hBB.out⟩
 case stop =>
  rintro D c pre W _ _ h _;exact h.elim
end

section
open Go.RowKit
theorem vs_set:∀ (l:List PT) (k:Nat) (_:k<l.length) (x y:Int),((shP.vs l).set (k*2) (.int .i64 x)).set (k*2+1) (.int .i64 y)=shP.vs (l.set k (x,y))
 | a :: t,0,_,x,y=>rfl
 | a :: t,k+1,h,x,y=>by
  have ih:=vs_set t k (by simpa using h) x y
  show ((Value.int .i64 a.1 :: .int .i64 a.2 :: shP.vs t).set ((k+1)*2) _).set ((k+1)*2+1) _=.int .i64 a.1 :: .int .i64 a.2 :: shP.vs (t.set k (x,y))
  rw [show (k+1)*2=k*2+1+1 by omega]
  simp only [List.set_cons_succ];rw [ih]
set_option maxRecDepth 100000 in
theorem qm1 (base g n c:Nat) (l:List PT) (w:World) (hown:w.ownsRow base 104 2 (.slice (some ⟨g,0,none⟩) n c) n (shP.vs l)) (hn:n=l.length) (_:base≤w.heap.size) (h16:n≤16) :
  Calls prog 109 #[.slice (some ⟨g,0,none⟩) n c] w fun e w'=>e=.returned (.tuple #[])∧w'.ownsRow base 104 2 (.slice (some ⟨g,0,none⟩) n c) n (shP.vs l.reverse)∧Below base w w':=by
 subst hn
 go_enter func109,ntmps109
 go_wp2
 go_loopw [2,3] (fun iv jv wr=>∃ (k:Nat) (cur:List PT),k≤l.length∧iv=.int .i64 k∧jv=.int .i64 ((l.length:Int)-1-(k:Int))∧cur.length=l.length∧(∀ t (h:t<cur.length) (h2:t<l.length),cur[t]=if t<k∨l.length-1<t+k then l[l.length-1-t]'(by omega) else l[t])∧wr.ownsRow base 104 2 (.slice (some ⟨g,0,none⟩) l.length c) l.length (shP.vs cur)∧Below base w wr) (fun iv _ _=>l.length-(intOf iv).toNat)
 case atStart=>exact ⟨0,l,Nat.zero_le _,rfl,by go_num,rfl,fun t h h2=>by rw [if_neg (by omega)],hown,Below.refl _ _⟩
 case round =>
  obtain ⟨k,cur,hk,rfl,rfl,hcl,hcur,hownr,hbr⟩:=hrel;have HCur:=Lib.hid hcur;have HCl:=Lib.hid hcl
  by_cases hlt:(k:Int)<(l.length:Int)-1-(k:Int)
  ·have hk2:k<cur.length:=by omega
   have hm2:l.length-1-k<cur.length:=by omega
   have hgl:g<wr.heap.size:=(hownr.lt _ rfl).2;obtain ⟨b,o,e,-,hc⟩:=pt_at (Sh.In.of_own (S:=shP) hownr hcl.symm) (by omega)
   injection e with e
   injection e with e1 e2
   subst e1;subst e2;obtain ⟨p0,p1⟩:=hc k hk2;obtain ⟨q0,q1⟩:=hc (l.length-1-k) hm2;rw [Nat.zero_add] at p0 p1 q0 q1;have f0:=hownr.frozenAt (k*2);have f1:=hownr.frozenAt (k*2+1);have f2:=hownr.frozenAt ((l.length-1-k)*2);have f3:=hownr.frozenAt ((l.length-1-k)*2+1);have i0:(0:Int)≤(k:Int):=by omega
   have i1:(k:Int)<(l.length:Int):=by omega
   have j0:(0:Int)≤(l.length:Int)-1-(k:Int):=by omega
   have j1:(l.length:Int)-1-(k:Int)<(l.length:Int):=by omega
   have j3:((l.length:Int)-1-(k:Int)).toNat=l.length-1-k:=by omega
   have w1:IntKind.i64.wrap ((k:Int)+1)=(k:Int)+1:=IntWalk.i64_in _ (by omega)
   have w2:IntKind.i64.wrap ((l.length:Int)-1-(k:Int)-1)=(l.length:Int)-1-(k:Int)-1:=IntWalk.i64_in _ (by omega)
   have hne:¬ k*2=(l.length-1-k)*2:=by omega
   have hne1:¬ k*2+1=(l.length-1-k)*2+1:=by omega
   have hne2:¬ k*2=(l.length-1-k)*2+1:=by omega
   have hne3:¬ k*2+1=(l.length-1-k)*2:=by omega
   have HOw:=Lib.hid hownr;have HBr:=Lib.hid hbr;have hxk:=hcur k hk2 (by omega)
   rw [if_neg (by omega)] at hxk
   have hxm:=hcur (l.length-1-k) hm2 (by omega)
   rw [if_neg (by omega)] at hxm
   generalize hX:cur[k]=x1 at *;generalize hY:cur[l.length-1-k]=x2 at *;obtain ⟨X,Y⟩:=x1;obtain ⟨X2,Y2⟩:=x2;dsimp only at p0 p1 q0 q1;have HXk:=Lib.hid hxk;have HXm:=Lib.hid hxm;have hbg:=(hownr.lt _ rfl).1;clear hc hcur hownr hbr hX hY hown hxk hxm;go_wp2_with fail
   go_region
   have h1:=(HOw.out.stored (k*2) (.int .i64 X2)).1;have h2:=(h1.stored (k*2+1) (.int .i64 Y2)).1;rw [vs_set cur k hk2] at h2;have h3:=(h2.stored ((l.length-1-k)*2) (.int .i64 X)).1;have h4:=(h3.stored ((l.length-1-k)*2+1) (.int .i64 Y)).1;rw [vs_set _ (l.length-1-k) (by rw [List.length_set];exact hm2)] at h4
   have h5:=qfq h4 (Below.refl _ _).drew;have hb5:=((((HBr.out.setCell (p:=⟨g,k*2,none⟩) hbg (.int .i64 X2)).setCell (p:=⟨g,k*2+1,none⟩) hbg (.int .i64 Y2)).setCell (p:=⟨g,(l.length-1-k)*2,none⟩) hbg (.int .i64 X)).setCell (p:=⟨g,(l.length-1-k)*2+1,none⟩) hbg (.int .i64 Y)).drew;generalize World.drew _=W6 at *;have H5:=Lib.hid h5;have HB5:=Lib.hid hb5;clear h1 h2 h3 h4 h5 hb5 p0 p1 q0 q1 f0 f1 f2 f3;go_wp2_with fail
   go_roundw
   case rel =>
    refine ⟨k+1,(cur.set k (X2,Y2)).set (l.length-1-k) (X,Y),by omega,by go_num,by go_num,by rw [List.length_set,List.length_set];exact HCl.out,fun t h h2=>?_,H5.out,HB5.out⟩
    rw [List.getElem_set]
    by_cases t1:l.length-1-k=t
    ·rw [if_pos t1,HXk.out,if_pos (by omega)]
     congr 1;omega
    ·rw [if_neg t1,List.getElem_set]
     by_cases t2:k=t
     ·rw [if_pos t2,HXm.out,if_pos (by omega)]
      congr 1;omega
     ·rw [if_neg t2,HCur.out t (by rw [List.length_set,List.length_set] at h;exact h) h2]
      by_cases t3:t<k∨l.length-1<t+k
      ·rw [if_pos t3,if_pos (by omega)]
      ·rw [if_neg t3,if_neg (by omega)]
   case measure=>simp [intOf];omega
  ·have hrev:cur=l.reverse:=List.ext_getElem (by rw [hcl,List.length_reverse]) fun t h h2=>by
    rw [hcur t h (by rw [List.length_reverse] at h2;exact h2),List.getElem_reverse]
    by_cases t3:t<k∨l.length-1<t+k
    ·rw [if_pos t3]
    ·rw [if_neg t3]
     have:l.length-1-t=t:=by omega
     simp only [this]
   subst hrev;clear hcur HCur hown;go_wp2_with fail
   go_end0
   exact ⟨rfl,hownr,hbr⟩
end

section
open Go.RowKit
theorem qbu {l:List PT} (h:OkC l) (hp0:0<l.length) (hp1:l.length-1<l.length) :
  (slC l=0∧errI l=16∧invT l=[]) ∨
  (slC l=1∧((l[0].2=0∧l[l.length-1].2=65535∧errI l=0∧invT l=l.map swapP)∨(¬ (l[0].2=0∧l[l.length-1].2=65535)∧errI l=16∧invT l=[]))) ∨
  (slC l=-1∧((l[l.length-1].2=0∧l[0].2=65535∧errI l=0∧invT l=(l.map swapP).reverse)∨(¬ (l[l.length-1].2=0∧l[0].2=65535)∧errI l=16∧invT l=[]))):=by
 have h2:=h.two;have h0:chkC l=0:=q2t.2 h;have hw:=qzl h2;have e0:errI l=if slC l=0∨¬ wholeC l then 16 else 0:=by unfold errI;rw [h0,if_neg (by decide)]
 have e1:invT l=if errI l≠0 then [] else turnC l:=rfl
 have hup:∀ (k:Nat) (hk:k<l.length),upY l=true→0<k→l[0].2<l[k].2:=fun k=>by
  induction k with
  | zero=>intro _ _ h;omega
  | succ k ih =>
   intro hk hu _;have h3:=qy8 hk hu
   by_cases hk0:k=0
   ·subst hk0;exact h3
   ·exact Int.lt_trans (ih (by omega) hu (by omega)) h3
 have hdn:∀ (k:Nat) (hk:k<l.length),downY l=true→0<k→l[k].2<l[0].2:=fun k=>by
  induction k with
  | zero=>intro _ _ h;omega
  | succ k ih =>
   intro hk hu _;have h3:=q62 hk hu
   by_cases hk0:k=0
   ·subst hk0;exact h3
   ·exact Int.lt_trans h3 (ih (by omega) hu (by omega))
 rcases qpt l with ⟨hs,hu⟩ | ⟨hs,hd⟩ | hs
 ·refine .inr (.inl ⟨hs,?_⟩)
  have hlt:=hup (l.length-1) hp1 hu (by omega)
  have et:turnC l=l.map swapP:=by unfold turnC;rw [if_neg (by omega)]
  by_cases hq:l[0].2=0∧l[l.length-1].2=65535
  ·have e2:errI l=0:=by rw [e0,if_neg (by rintro (h | h);omega;exact h (hw.2 (.inl hq)))]
   exact .inl ⟨hq.1,hq.2,e2,by rw [e1,e2,if_neg (by decide),et]⟩
  ·have e2:errI l=16:=by
    rw [e0,if_pos (.inr fun h=>by
     rcases hw.1 h with h | h
     ·exact hq h
     ·omega)]
   exact .inr ⟨hq,e2,by rw [e1,e2,if_pos (by decide)]⟩
 ·refine .inr (.inr ⟨hs,?_⟩)
  have hlt:=hdn (l.length-1) hp1 hd (by omega)
  have et:turnC l=(l.map swapP).reverse:=by unfold turnC;rw [if_pos (by omega)]
  by_cases hq:l[l.length-1].2=0∧l[0].2=65535
  ·have e2:errI l=0:=by rw [e0,if_neg (by rintro (h | h);omega;exact h (hw.2 (.inr ⟨hq.2,hq.1⟩)))]
   exact .inl ⟨hq.1,hq.2,e2,by rw [e1,e2,if_neg (by decide),et]⟩
  ·have e2:errI l=16:=by
    rw [e0,if_pos (.inr fun h=>by
     rcases hw.1 h with h | h
     ·omega
     ·exact hq ⟨h.2,h.1⟩)]
   exact .inr ⟨hq,e2,by rw [e1,e2,if_pos (by decide)]⟩
 ·have e2:errI l=16:=by rw [e0,if_pos (.inl hs)]
  exact .inl ⟨hs,e2,by rw [e1,e2,if_pos (by decide)]⟩
set_option maxRecDepth 100000 in
theorem q3b (A:Option Addr) (n c:Nat) (l:List PT) (w:World) (hl:shP.In w A n l) (hn:n≤9223372036854775806) :
  Calls prog 51 #[.slice A n c] w fun e w'=>∃ r,e=.returned (.tuple #[r,.int .i64 (errI l)])∧shP.Out 104 (invT l) w r w':=by
 obtain ⟨rfl,_⟩:=id hl;have hB:=Below.refl w.heap.size w;have HC:=Lib.hid (fun w hl=>q29 A l.length c l w hl (by omega))
 have HL:=Lib.hid hl
 by_cases h1:chkC l=0
 ·have hok:=q2t.1 h1
  have h16:=hok.few;have h2:=hok.two;have hp0:0<l.length:=by omega
  have hp1:l.length-1<l.length:=by omega
  rw [h1] at HC;have HS:=Lib.hid (fun w hl=>q3y A l.length c l w hl h16)
  have hic:=qbu hok hp0 hp1;have HIc:=Lib.hid hic;obtain ⟨sl,hsl⟩:∃ sl,slC l=sl:=⟨_,rfl⟩;obtain ⟨EI,hEI⟩:∃ EI,errI l=EI:=⟨_,rfl⟩;obtain ⟨IV,hIV⟩:∃ IV,invT l=IV:=⟨_,rfl⟩;rw [hEI,hIV];rw [hsl] at HS HIc;rw [hEI,hIV] at HIc;have hml:(l.map swapP).length=l.length:=by simp
  have Hml:=Lib.hid hml;clear h1 hl hok hic hml hsl hEI hIV
  go_enter func51,ntmps51
  go_wp2_with (go_at_call 107;with_reducible refine up_ (HC.out _ (HL.out.below hB)) hB ?_;clear hB;intro wk hB)
  rename World=>wc
  have HBc:=Lib.hid hB;clear hB
  go_loopw [5,15] (fun vo iv wr=>∃ k:Nat,k≤l.length∧iv=.int .i64 k∧wr.ownsRow w.heap.size 104 2 vo k (shP.vs ((l.map swapP).take k))∧Below w.heap.size w wr) (fun _ iv _=>l.length-(intOf iv).toNat)
  case atStart=>exact ⟨0,Nat.zero_le _,rfl,World.ownsRow_nil _ _ _ _,HBc.out⟩
  case round =>
   obtain ⟨k,hk,rfl,hown,hb⟩:=hrel;have hsz:=hb.size
   by_cases hlt:k<l.length
   ·obtain ⟨b,o,rfl,hbl,hc⟩:=pt_at (HL.out.below hb) (by omega)
    obtain ⟨p0,p1⟩:=hc k hlt;have ht:=Lib.hid (show shP.vs ((l.map swapP).take (k+1))=shP.vs ((l.map swapP).take k) ++ [.int .i64 l[k].2,.int .i64 l[k].1] by
     rw [shP.vs_take (l.map swapP) k (by rw [Hml.out];exact hlt),List.getElem_map];rfl)
    generalize l[k].1=X at *;generalize l[k].2=Y at *;obtain ⟨Ao,co,rfl⟩:=qfu hown;have i0:(0:Int)≤(k:Int):=by omega
    have i1:(k:Int)<(l.length:Int):=by omega
    clear hc;go_wp2_with (at_builtin;refine q003 rfl _ _ _ rfl w.heap.size _ _ 2 16 underlying99 infoPt rfl (by omega) _ k (shP.vs ((l.map swapP).take k)) rfl (hown.alloc _) [.int .i64 Y,.int .i64 X] _ _ _ rfl (by first | rfl | simp) rfl (pt_one _ _) (by unfold maxLen;omega) (by omega) (by first | omega | (simp;omega) | simp) ?_;intro g cap w1 hown1 hg1)
    go_roundw
    case rel=>exact ⟨k+1,by omega,by go_num,by rw [ht.out];exact hown1,q1a (hb.alloc hsz _) (Nat.le_refl _) (hown.alloc _) hg1⟩
    case measure=>simp [intOf];omega
   ·obtain rfl:k=l.length:=by omega
    rw [List.take_of_length_le (by rw [Hml.out];omega)] at hown
    obtain ⟨g,co,rfl,hgb⟩:∃ g cap,_=Value.slice (some ⟨g,0,none⟩) l.length cap∧w.heap.size≤g:=by
     rcases hown.2 with ⟨-,h⟩ | ⟨g,cap,cur,h,h2,-⟩
     ·omega
     ·exact ⟨g,cap,h,h2⟩
    have HBr:=Lib.hid hb;have hB:=Below.refl wr.heap.size wr;have w1:IntKind.i64.wrap ((l.length:Int)-1)=(l.length:Int)-1:=IntWalk.i64_in _ (by omega)
    have w2:((l.length:Int)-1).toNat=l.length-1:=by omega
    have i0:(0:Int)<(l.length:Int):=by omega
    have i1:(0:Int)≤(l.length:Int)-1:=by omega
    have i2:(l.length:Int)-1<(l.length:Int):=by omega
    have Hown:=Lib.hid hown;replace HL:=Lib.hid (HL.out.below hb);clear hb hown
    rcases HIc.out with ⟨rfl,rfl,rfl⟩ | ⟨rfl,hq⟩ | ⟨rfl,hq⟩
    ·clear HIc
     go_wp2_with (go_at_call 108;with_reducible refine up_ (HS.out _ (HL.out.below hB)) hB ?_;clear hB;intro wk hB);go_ret2;exact ⟨_,rfl,Sh.Out.nil (HBr.out.trans (hB.mono HBr.out.size))⟩
    ·clear HIc
     obtain ⟨X0,hX0⟩:∃ X0,(l[0]'hp0).2=X0:=⟨_,rfl⟩;obtain ⟨X1,hX1⟩:∃ X1,(l[l.length-1]'hp1).2=X1:=⟨_,rfl⟩;rw [hX0,hX1] at hq;have Hcell:=Lib.hid (fun (w':World) (h:w'.ownsRow w.heap.size 104 2 (.slice (some ⟨g,0,none⟩) l.length co) l.length (shP.vs (l.map swapP)))=>(show w'.cell? ⟨g,0,none⟩=some (.int .i64 X0)∧w'.cell? ⟨g,(l.length-1)*2,none⟩=some (.int .i64 X1) by
      obtain ⟨b,o,e,-,hc⟩:=pt_at (Sh.In.of_own (S:=shP) h Hml.out.symm) (by rw [Hml.out];exact hp0)
      injection e with e
      injection e with e1 e2
      subst e1;subst e2;have c1:=(hc 0 (by rw [Hml.out];exact hp0)).1
      have c2:=(hc (l.length-1) (by rw [Hml.out];exact hp1)).1
      rw [List.getElem_map] at c1 c2;rw [← hX0,← hX1];simp only [Nat.zero_mul,Nat.zero_add] at c1 c2;exact ⟨c1,c2⟩))
     clear hX0 hX1
     rcases hq with ⟨rfl,rfl,rfl,rfl⟩ | ⟨hq,rfl,rfl⟩
     ·go_wp2_with (go_at_call 108;with_reducible refine up_ (HS.out _ (HL.out.below hB)) hB ?_;clear hB;intro wk hB;obtain ⟨p0,p1⟩:=Hcell.out _ (qfq Hown.out hB))
      go_ret2;exact ⟨.slice (some ⟨g,0,none⟩) l.length co,rfl,some ⟨g,0,none⟩,co,by rw [Hml.out],by rw [Hml.out];exact qfq Hown.out hB,HBr.out.trans (hB.mono HBr.out.size)⟩
     ·by_cases hx:X0=0
      ·subst hx
       have hy:¬ X1=65535:=fun h=>hq ⟨rfl,h⟩
       have g1:(X1 == 65535)=false:=by simpa using hy
       have g2:(X1 != 65535)=true:=by simpa using hy
       clear hq hy;go_wp2_with (go_at_call 108;with_reducible refine up_ (HS.out _ (HL.out.below hB)) hB ?_;clear hB;intro wk hB;obtain ⟨p0,p1⟩:=Hcell.out _ (qfq Hown.out hB));go_ret2;exact ⟨_,rfl,Sh.Out.nil (HBr.out.trans (hB.mono HBr.out.size))⟩
      ·have g1:(X0 == 0)=false:=by simpa using hx
       have g2:(X0 != 0)=true:=by simpa using hx
       clear hq hx;go_wp2_with (go_at_call 108;with_reducible refine up_ (HS.out _ (HL.out.below hB)) hB ?_;clear hB;intro wk hB;obtain ⟨p0,p1⟩:=Hcell.out _ (qfq Hown.out hB));go_ret2;exact ⟨_,rfl,Sh.Out.nil (HBr.out.trans (hB.mono HBr.out.size))⟩
    ·clear HIc
     obtain ⟨X0,hX0⟩:∃ X0,(l[0]'hp0).2=X0:=⟨_,rfl⟩;obtain ⟨X1,hX1⟩:∃ X1,(l[l.length-1]'hp1).2=X1:=⟨_,rfl⟩;rw [hX0,hX1] at hq;have hrl:((l.map swapP).reverse).length=l.length:=by simp
     have Hrl:=Lib.hid hrl;have Hcell:=Lib.hid (fun (w':World) (h:w'.ownsRow w.heap.size 104 2 (.slice (some ⟨g,0,none⟩) l.length co) l.length (shP.vs (l.map swapP).reverse))=>(show w'.cell? ⟨g,0,none⟩=some (.int .i64 X1)∧w'.cell? ⟨g,(l.length-1)*2,none⟩=some (.int .i64 X0) by
      obtain ⟨b,o,e,-,hc⟩:=pt_at (Sh.In.of_own (S:=shP) h hrl.symm) (by rw [hrl];exact hp0)
      injection e with e
      injection e with e1 e2
      subst e1;subst e2;have c1:=(hc 0 (by rw [hrl];exact hp0)).1
      have c2:=(hc (l.length-1) (by rw [hrl];exact hp1)).1
      rw [List.getElem_reverse,List.getElem_map] at c1 c2;rw [← hX0,← hX1];simp only [Nat.zero_mul,Nat.zero_add,List.length_map,Nat.sub_zero,Nat.sub_self] at c1 c2;exact ⟨c1,c2⟩))
     have HRv:=Lib.hid (fun (w':World) h hb=>qm1 w.heap.size g l.length co (l.map swapP) w' h Hml.out.symm hb h16)
     have hsw:=HBr.out.size;clear hX0 hX1 hrl
     rcases hq with ⟨rfl,rfl,rfl,rfl⟩ | ⟨hq,rfl,rfl⟩
     ·go_wp2_with (first | (go_at_call 108;with_reducible refine up_ (HS.out _ (HL.out.below hB)) hB ?_;clear hB;intro wk hB) | (go_at_call 109;refine (HRv.out _ (qfq Hown.out hB) (Nat.le_trans hsw hB.size)).mono ?_;rintro e wk ⟨rfl,hown4,hb4⟩;have hB4:=(hB.mono hsw).trans hb4;clear hb4;obtain ⟨p0,p1⟩:=Hcell.out _ hown4))
      go_ret2;exact ⟨.slice (some ⟨g,0,none⟩) l.length co,rfl,some ⟨g,0,none⟩,co,by rw [Hrl.out],by rw [Hrl.out];exact hown4,HBr.out.trans hB4⟩
     ·by_cases hx:X1=0
      ·subst hx
       have hy:¬ X0=65535:=fun h=>hq ⟨rfl,h⟩
       have g1:(X0 == 65535)=false:=by simpa using hy
       have g2:(X0 != 65535)=true:=by simpa using hy
       clear hq hy;go_wp2_with (first | (go_at_call 108;with_reducible refine up_ (HS.out _ (HL.out.below hB)) hB ?_;clear hB;intro wk hB) | (go_at_call 109;refine (HRv.out _ (qfq Hown.out hB) (Nat.le_trans hsw hB.size)).mono ?_;rintro e wk ⟨rfl,hown4,hb4⟩;have hB4:=(hB.mono hsw).trans hb4;clear hb4;obtain ⟨p0,p1⟩:=Hcell.out _ hown4))
       go_ret2;exact ⟨_,rfl,Sh.Out.nil (HBr.out.trans hB4)⟩
      ·have g1:(X1 == 0)=false:=by simpa using hx
       have g2:(X1 != 0)=true:=by simpa using hx
       clear hq hx;go_wp2_with (first | (go_at_call 108;with_reducible refine up_ (HS.out _ (HL.out.below hB)) hB ?_;clear hB;intro wk hB) | (go_at_call 109;refine (HRv.out _ (qfq Hown.out hB) (Nat.le_trans hsw hB.size)).mono ?_;rintro e wk ⟨rfl,hown4,hb4⟩;have hB4:=(hB.mono hsw).trans hb4;clear hb4;obtain ⟨p0,p1⟩:=Hcell.out _ hown4))
       go_ret2;exact ⟨_,rfl,Sh.Out.nil (HBr.out.trans hB4)⟩
 ·have e2:errI l=chkC l:=by unfold errI;rw [if_pos h1]
  have e:invT l=[]:=by unfold invT;rw [e2,if_pos h1]
  rw [e,e2];generalize chkC l=q at *;have g1:(q == 0)=false:=by simpa using h1
  have g2:(q != 0)=true:=by simpa using h1
  clear e e2 h1 hl
  go_enter func51,ntmps51
  go_wp2_with (go_at_call 107;with_reducible refine up_ (HC.out _ (HL.out.below hB)) hB ?_;clear hB;intro wk hB);go_ret2;exact ⟨_,rfl,Sh.Out.nil hB⟩
end

section
open Go.RowKit
theorem qez (z:Int) (b:ByteArray) (h:b.data.toList=Lib.itoa z):sR ((z:Int):Rat)=b:=(sR_of (by rw [h];unfold rT;rw [Rat.den_intCast,if_pos rfl,Rat.num_intCast])).symm
theorem n1:sR ((1:Int):Rat)=⟨#[49]⟩:=qez _ _ (by rw [qc9])
end

end Go.Proofs.YtbfikenbgfnfiaaGreatDoor
