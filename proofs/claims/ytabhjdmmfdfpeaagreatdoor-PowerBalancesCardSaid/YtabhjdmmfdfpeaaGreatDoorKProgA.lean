/- Lemmas. -/
import Derived.RangeFuncNested
import Derived.RangeFuncBound
import Derived.Shelf.RegionOpen
import Derived.LoopNIn
import Derived.LoopIn
import Derived.Test.YtabhjdmmfdfpeaaGreatDoorKWord
namespace Go.Proofs.YtabhjdmmfdfpeaaGreatDoor
set_option maxHeartbeats 32000000
set_option maxRecDepth 100000
open _root_.Go.Proofs.Tryz
open Go.RowKit
variable {a:Int} {l:List Nat} {xs:List Value} {base c d g n n₀ z:Nat} {e tb:TypeId} {v:Value} {A B W W' w:World}
section
open Go.RowKit Go.Shelf
attribute [local go_sem] Oper.semAt_some
def KpR (n₀:Nat) (t:TypeId) (W W':World):Prop:=Below n₀ W W'∧∀ (k:Nat) (c:Array Value),W.heap[k]? = some (Obj.cells c t (0,0))→W'.heap[k]? = some (Obj.cells c t (0,0))
theorem KpR.refl (n₀:Nat) (t:TypeId) (W:World):KpR n₀ t W W:=⟨br_,fun _ _ h=>h⟩
theorem KpR.t {t:TypeId} {C:World} (h:KpR n₀ t A B) (k:KpR n₀ t B C):KpR n₀ t A C:=⟨h.1.trans k.1,fun i c hi=>k.2 i c (h.2 i c hi)⟩
theorem KpR.b {t:TypeId} (hn:n₀≤w.heap.size) (W:World) (l:Nat) (o o':Obj) (hl:w.heap.size≤l) (h:W.heap[l]? = some o) (hc:o.isCells=false) (hw:o.isWalk=false):KpR n₀ t W (W.putObj l o'):=by
 refine ⟨belowK_b hn W l o o' hl h hc hw,fun k c hk=>?_⟩
 have hne:k≠l:=by
  rintro rfl;rw [hk] at h
  injection h with h
  subst h;simp [Obj.isCells] at hc
 exact (World.putObj_heap_other hne).trans hk
theorem KpR.grown {t:TypeId} {row:Option Nat} (h:KpR n₀ t A B) (hg:B.grownBy W row) (hB:n₀≤B.heap.size) (hr:∀ k,row=some k→n₀≤k∧∀ c:Array Value,B.heap[k]?≠some (Obj.cells c t (0,0))):KpR n₀ t A W :=
 ⟨h.1.grown hg hB fun k e=>(hr k e).1,fun k c hk=>by
  have h1:=h.2 k c hk;rw [hg.block k (Array.getElem?_eq_some_iff.1 h1).1 (fun e=>(hr k e.symm).2 c h1)];exact h1⟩
theorem KpR.set {t:TypeId} (h:KpR n₀ t A W) {Bx:Nat} (hv:Boxed W Bx tb v) (hne:tb≠t) (hx:n₀≤Bx) (u:Value):KpR n₀ t A (W.setCell ⟨Bx,0,none⟩ u) :=
 ⟨h.1.setCell (p:=⟨Bx,0,none⟩) hx u,fun k c hk=>by
  have h1:=h.2 k c hk;rw [Below.heap_setCell _ _ _ _ (by
   intro e;have e:k=Bx:=e;subst e;unfold Boxed at hv;rw [hv] at h1
   injection h1 with h1
   injection h1 with _ h2
   exact hne h2)]
  exact h1⟩
theorem KpR.alloc {t:TypeId} (h:KpR n₀ t A W) (hB:n₀≤W.heap.size) (o:Obj):KpR n₀ t A (W.alloc o):=h.grown (World.grownBy_alloc W o none) hB (fun k e=>by cases e)
theorem KpR.of_below {t:TypeId} (h:Below W.heap.size W W') (hn:n₀≤W.heap.size):KpR n₀ t W W' :=
 ⟨h.mono hn,fun k _ hk=>(h.block k (Array.getElem?_eq_some_iff.1 hk).1).trans hk⟩
theorem Boxed.own {row:Option Nat} {B:Nat} {t:TypeId} (h:Boxed W B t v) (hg:W.grownBy W' row) (hr:∀ r,row=some r→∃ o:Obj,W.heap[r]? = some o∧o.isCells=false):Boxed W' B t v :=
 h.kept hg fun e=>by
  obtain ⟨o,ho,hc⟩:=hr B e.symm;rw [show W.heap[B]? = _ from h] at ho
  cases ho
  simp [Obj.isCells] at hc
def dn (l:List Nat):List (Fin l.length):=(List.finRange l.length).reverse
theorem q5y (l:List Nat):(dn l).length=l.length:=by simp [dn]
theorem dn_at (l:List Nat) (t:Nat) (h:t<l.length):(dn l)[t]'(by rw [q5y];exact h)=⟨l.length-1-t,o_⟩:=by
 simp [dn,List.getElem_reverse]
theorem q5z (l:List Nat) (t:Nat) (h:t<l.length):(dn l).take (t+1)=(dn l).take t ++ [⟨l.length-1-t,o_⟩]:=by
 rw [List.take_succ_eq_append_getElem (by rw [q5y];exact h),dn_at l t h]
theorem q60 (n:Nat) (hn:1≤n) (y0 Bs n₀:Nat) (A:Option Addr) (c:Nat) (l:List Nat) (hlen:l.length≤1000000) (J Jx:List (Fin l.length)→World→Prop)
  (W:World) (_hJa:AbidesFrom W.heap.size J)
  (hY:∀ pre (x:Fin l.length) W,J pre W→pre.length<l.length→YieldAt Fence.wide (n-1) prog y0 #[.int .i64 (x.val:Int),.int .u64 (l[x]:Int)] W fun e W' =>
   (e=.returned (.bool true)∧J (pre ++ [x]) W'∧KpR n₀ 235 W W')∨(e=.returned (.bool false)∧Jx (pre ++ [x]) W'))
  (_hn₀:n₀≤W.heap.size) (hBs:Boxed W Bs 235 (.slice A l.length c))
  (hcell:∀ k (hk:k<l.length),∃ b o,A=some ⟨b,o,none⟩∧b<n₀∧W.cell? ⟨b,o+k,none⟩=some (.int .u64 (l[k]:Int))) (h0:J [] W) :
  CallsIn Fence.wide n prog 320 #[.func (.yield y0) #[] #[],.pointer (some ⟨Bs,0,none⟩)] W fun e W'=>(∃ v,e=.returned v) ∧
   ((∃ ys,ys=dn l∧J ys W')∨(∃ pre,pre <+: dn l∧Jx pre W')):=by
 have HC:=hj_ hcell;clear hcell;have hc0:=hBs.cell;refine callsIn_of_wp func320 rfl trivial ?_ rfl;simp only [ntmps320,List.size_toArray,List.length_cons,List.length_nil,Nat.reduceAdd,Nat.reduceSub,Array.replicate_succ,Array.replicate_zero,List.push_toArray,List.append_toArray,List.nil_append,List.cons_append]
 gi_wp2
 gi_loopw [3] (fun i wr=>∃ t k:Nat,t+k=l.length∧i=.int .i64 ((k:Int)-1)∧J ((dn l).take t) wr∧Boxed wr Bs 235 (.slice A l.length c)∧Below n₀ W wr) (fun i _=>(intOf i+1).toNat)
 case atStart=>exact ⟨0,l.length,o_,rfl,by simpa using h0,hBs,br_⟩
 case round =>
  clear hc0;obtain ⟨t,k,htk,rfl,hJ,hB,hb⟩:=hrel;have hc0:=hB.cell
  by_cases hlt:k=0
  ·subst hlt
   have e:(dn l).take t=dn l:=List.take_of_length_le (by rw [q5y];omega)
   rw [e] at hJ
   gi_wp2
   go_end0
   exact ⟨⟨_,rfl⟩,.inl ⟨_,rfl,hJ⟩⟩
  ·obtain ⟨j,rfl⟩:∃ j,k=j+1:=⟨k-1,o_⟩
   have hj:j<l.length:=o_
   have hs:=hj_ (q5z l t o_)
   have hx:(⟨l.length-1-t,o_⟩:Fin l.length)=⟨j,hj⟩:=Fin.ext (by simp;omega)
   rw [hx] at hs;obtain ⟨b,o,rfl,hbl,hc1⟩:=HC.out j hj;have hc1:=(hb.cell (p:=⟨b,o+j,none⟩) hbl).trans hc1;have hYj:YieldAt Fence.wide (n-1) prog y0 #[.int .i64 (j:Int),.int .u64 ((l[j]:Nat):Int)] wr _:=hY _ ⟨j,hj⟩ wr hJ (by rw [List.length_take,q5y];omega)
   obtain ⟨fn,tmps,assign,body,hy,hRd⟩:=hYj;have hj1:((j+1:Nat):Int)-1=(j:Int):=o_
   rw [hj1];clear hx hj1;have hl0:l.length≤1000000:=hlen;have hji:(j:Int)<(l.length:Int):=o_
   generalize l[j]=x at *;have HTK:=hj_ htk;clear htk
   gi_wp2
   refine hRd.mono ?_;rintro e W3 (⟨rfl,hJ3,hk3⟩ | ⟨rfl,hJx3⟩)
   ·gi_wp2
    go_roundw
    case rel=>exact ⟨t+1,j,by have:=HTK.out;omega,by go_num,by rw [hs.out];exact hJ3,hk3.2 _ _ hB,hb.trans hk3.1⟩
    case measure=>first | (simp [intOf];omega) | simp [intOf]
   ·gi_wp2
    refine bodyPost_ret (results_none rfl _ _ _) rfl ?_;refine ⟨⟨_,rfl⟩,.inr ⟨_,?_,hJx3⟩⟩;rw [← hs.out];exact List.take_prefix _ _
theorem q63 (n:Nat) (A:Option Addr) (len c:Nat) (w:World) :
  CallsIn Fence.wide n prog 285 #[.slice A len c] w fun e w'=>e=.returned (.func (.func 320) #[] #[.pointer (some ⟨w.heap.size,0,none⟩)])∧w' = w.alloc (.cells #[.slice A len c] 235):=by
 refine callsIn_of_wp func285 rfl trivial ?_ rfl;simp only [ntmps285,List.size_toArray,List.length_cons,List.length_nil,Nat.reduceAdd,Nat.reduceSub,Array.replicate_succ,Array.replicate_zero,List.push_toArray,List.append_toArray,List.nil_append,List.cons_append]
 gi_wp2
 go_ret;exact ⟨rfl,rfl⟩
theorem q66 (n:Nat) (hn:1≤n) (Bs n₀:Nat) (A:Option Addr) (c:Nat) (l:List Nat) (hlen:l.length≤1000000) (w:World) (hn₀:n₀≤w.heap.size)
  (hBs:Boxed w Bs 235 (.slice A l.length c))
  (hcell:∀ k (hk:k<l.length),∃ b o,A=some ⟨b,o,none⟩∧b<n₀∧w.cell? ⟨b,o+k,none⟩=some (.int .u64 (l[k]:Int))) :
  SeqStopsK Fence.wide n prog 320 #[.pointer (some ⟨Bs,0,none⟩)] (fun x:Fin l.length=>#[Value.int .i64 (x.val:Int),.int .u64 (l[x]:Int)]) (KpR n₀ 235) (fun ys=>ys=dn l) (fun pre=>pre <+: dn l) l.length w:=fun y J Jx W hW hJ _ hY h0 =>
 q60 n hn y Bs n₀ A c l hlen J Jx W hJ hY (Nat.le_trans hn₀ hW.size) ((hW.block Bs hBs.lt).trans hBs) (fun k hk=>by
  obtain ⟨b,o,e,hb,h1⟩:=hcell k hk;exact ⟨b,o,e,hb,(hW.cell (p:=⟨b,_,none⟩) (Nat.lt_of_lt_of_le hb hn₀)).trans h1⟩) h0
end
section
open Go.RowKit Go.Shelf
attribute [local go_sem] Oper.semAt_some
theorem qm0 {b:Int} (h:a=b):Ending.returned (.int .u64 a)=.returned (.int .u64 b):=by rw [h]
theorem at_any (A:Option Addr) (n c:Nat) (l:List Nat) (i:Nat) (w:World) (hl:Us w A n l) (hn:n≤1000000) :
  Calls prog 291 #[.slice A n c,.int .i64 i] w fun e w'=>e=.returned (.int .u64 (l.getD i 0:Nat))∧w=w':=by
 obtain ⟨rfl,_⟩:=id hl
 by_cases h:i<l.length
 ·obtain ⟨b,o,rfl,hbl,hc⟩:=hl.at1 h
  have e:=hj_ (show l.getD i 0=l[i] from by rw [List.getD_eq_getElem?_getD,List.getElem?_eq_getElem h];rfl)
  generalize l[i]=x at *
  go_enter func291,ntmps291
  go_wp2;go_ret;exact ⟨qm0 (by rw [e.out]),rfl⟩
 ·have e:=hj_ (show l.getD i 0=0 from by rw [List.getD_eq_getElem?_getD,List.getElem?_eq_none o_];rfl)
  go_enter func291,ntmps291
  go_wp2;go_ret;exact ⟨qm0 (by rw [e.out];rfl),rfl⟩
def RetM (m:Nat) (w:World) (e:Ending) (w':World):Prop:=∃ v,e=.returned v∧Mag w' v m∧Below w.heap.size w w'∧∀ a n c,v=.slice (some a) n c→w.heap.size≤a.block
def RetK (A:Option Addr) (m:Nat) (w:World) (e:Ending) (w':World):Prop:=∃ v,e=.returned v∧Mag w' v m∧Below w.heap.size w w'∧∀ a n c,v=.slice (some a) n c→A=some a
theorem qfq {w':World} (h:w.ownsRow base e z v n xs) (hb:Below w.heap.size w w'):w'.ownsRow base e z v n xs:=by
 refine ⟨h.1,?_⟩
 rcases h.2 with h | ⟨g,cap,cur,hv,hg,hc,r⟩
 ·exact .inl h
 ·exact .inr ⟨g,cap,cur,hv,hg,(hb.block g (Array.getElem?_eq_some_iff.1 hc).1).trans hc,r⟩
theorem qdq (w:World) (m:Nat) (h:wds 1000000000 m=[]):Mag w (.slice none 0 0) m:=⟨none,0,by rw [h];rfl,by rw [h];simp,by rw [h];exact Us.nil _ _⟩
theorem qik {pre:List (Fin l.length)} {x:Fin l.length} (h:pre ++ [x] <+: dn l):∀ y:Fin l.length,x.val<y.val→y ∈ pre:=by
 intro y hy;obtain ⟨t,ht⟩:=h;have hlen:pre.length<l.length:=by
  have:=congrArg List.length ht
  rw [q5y] at this;simp at this;omega
 have hx:(dn l)[pre.length]'(by rw [q5y];exact hlen)=x:=by
  simp only [← ht];simp
 rw [dn_at l _ hlen] at hx;have hxv:x.val=l.length-1-pre.length:=by rw [← hx]
 have hyt:l.length-1-y.val<pre.length:=by have:=y.isLt;omega
 have hy2:(dn l)[l.length-1-y.val]'(by rw [q5y];have:=y.isLt;omega)=y:=by
  rw [dn_at l _ (oh_ y.isLt)]
  exact Fin.ext (by simp;have:=y.isLt;omega)
 have:(dn l)[l.length-1-y.val]'(by rw [q5y];have:=y.isLt;omega)=pre[l.length-1-y.val]'hyt:=by
  simp only [← ht,List.append_assoc];rw [List.getElem_append_left hyt]
 rw [← hy2,this];exact List.getElem_mem _
theorem mem_dn (y:Fin l.length):y ∈ dn l:=by simp [dn]
theorem q47 (A:Option Addr) (n c:Nat) (l:List Nat) (w:World) (hl:Us w A n l) (hn:n≤100000) (hc:n≤c) (hc2:c≤maxLen) (hw:Wd 1000000000 l) :
  Calls prog 240 #[.slice A n c] w (RetK A (wv 1000000000 l) w):=by
 obtain ⟨rfl,_⟩:=id hl;unfold maxLen at hc2;have HW:=hj_ hw;clear hw;have bN:=Boxed.new w 235 (.slice A l.length c);have b0:=bN.alloc (.cells #[.slice none 0 0] 235);have bR:=Boxed.new (w.alloc (.cells #[.slice A l.length c] 235)) 235 (.slice none 0 0);rw [World.size_alloc] at bR;have hB0:Below w.heap.size w ((w.alloc (.cells #[.slice A l.length c] 235)).alloc (.cells #[.slice none 0 0] 235)):=((Below.refl _ w).alloc lr_ _).alloc s_ _
 refine (callsIn_wide (n:=5)).1 ?_;refine callsIn_of_wp_marks func240 rfl trivial ?_ rfl;simp only [ntmps240,List.size_toArray,List.length_cons,List.length_nil,Nat.reduceAdd,Nat.reduceSub,Array.replicate_succ,Array.replicate_zero,List.push_toArray,List.append_toArray,List.nil_append,List.cons_append]
 gi_wp2_with (refine ⟨trivial,?_⟩;gi_at_call 285;refine (q63 _ _ _ _ _).mono ?_;rintro e w' ⟨rfl,rfl⟩)
 have hB1:Below w.heap.size w (((w.alloc (.cells #[.slice A l.length c] 235)).alloc (.cells #[.slice none 0 0] 235)).alloc (.cells #[.slice A l.length c] 235)):=hB0.alloc (by simp;omega) _
 have bS:=Boxed.new ((w.alloc (.cells #[.slice A l.length c] 235)).alloc (.cells #[.slice none 0 0] 235)) 235 (.slice A l.length c);simp only [World.size_alloc] at bS;refine wpIn_rangeFunc_ownG rfl o_ (gf:=320) (lb:=#[.pointer (some ⟨w.heap.size+1+1,0,none⟩)]) rfl trivial (enters_of func320 k_ rfl)
  (q66 4 o_ (w.heap.size+1+1) w.heap.size A c l o_ _ (by simp;omega) bS (fun k hk=>by
   obtain ⟨b,o,e,hb,h1⟩:=hl.at1 hk;exact ⟨b,o,e,hb,(hB1.cell (p:=⟨b,_,none⟩) hb).trans h1⟩)) KpR.t (KpR.b (by simp;omega)) (br_) (fun _=>rfl)
  (fun pre W=>((∀ y ∈ pre,l[y]=0)∧Boxed W w.heap.size 235 (.slice A l.length c)∧Boxed W (w.heap.size+1) 235 (.slice none 0 0))∧Below w.heap.size w W)
  (fun e pre W=>(e=.ret∧∃ (pre0:List (Fin l.length)) (x:Fin l.length),pre=pre0 ++ [x]∧(∀ y ∈ pre0,l[y]=0)∧l[x]≠0∧Boxed W (w.heap.size+1) 235 (.slice A (x.val+1) c))∧Below w.heap.size w W)
  (OwnFrom.and (Own.from (fun (s:List (Fin l.length)) A B row hs hg hr=>⟨hs.1,Boxed.own hs.2.1 hg hr,Boxed.own hs.2.2 hg hr⟩) _) (ownFrom_below lr_ (by simp;omega)))
  (fun e=>OwnFrom.and (Own.from (fun (s:List (Fin l.length)) A B row hs hg hr=>⟨hs.1,hs.2.imp fun p h=>h.imp fun x h=>⟨h.1,h.2.1,h.2.2.1,Boxed.own h.2.2.2 hg hr⟩⟩) _) (ownFrom_below lr_ (by simp;omega)))
  ⟨⟨s_,b0.alloc _,bR.alloc _⟩,hB1⟩
  (fun x=>{ tmps:=#[.slice A l.length c,.pointer (some ⟨w.heap.size,0,none⟩),.pointer (some ⟨w.heap.size+1,0,none⟩),.int .i64 (x.val:Int),.int .u64 (l[x]:Nat),.slice A l.length c,.func (.func 320) #[] #[.pointer (some ⟨w.heap.size+1+1,0,none⟩)],.int .i64 (x.val:Int),.int .u64 (l[x]:Nat),undef,undef,undef,undef,undef,undef],defers:=[] }) ?assign ?body ?done ?stop
 case assign =>
  intro l x W K hK
  gi_wp2
  simpa using hK
 case body =>
  clear b0 bR bS bN;rintro y0 pre ⟨x,hx⟩ W ⟨⟨hp,hb1,hb2⟩,hB⟩ hlt;have hc1:=hb1.cell;have hf1:=hb1.frozen;have hc2':=hb2.cell;have hf2:=hb2.frozen;have HP:=hj_ hp;clear hp hlt hB0 hB1;have hxc:x+1≤c:=o_
  simp only [Fin.getElem_fin]
  by_cases h0:l[x]=0
  ·have H0:=hj_ h0
   rw [h0];clear h0
   gi_wp2
   exact ⟨KeepsFrom.refl _ _,KpR.refl _ _ _,⟨fun y hy=>(List.mem_append.1 hy).elim (HP.out y) (fun e=>by simp at e;subst e;exact H0.out),hb1,hb2⟩,hB⟩
  ·have H0:=hj_ h0
   have h0':((l[x]:Nat):Int)≠0:=o_
   have h1':(((l[x]:Nat):Int) != 0)=true:=by simpa using h0'
   clear h0 h0';generalize hgen:l[x]=z at *;have HG:=hj_ hgen;clear hgen
   gi_wp2
   refine ⟨(KeepsOthers.setCell _ _ _).from _,⟨rfl,_,_,rfl,HP.out,by show l[x]≠0;rw [HG.out];exact H0.out,?_⟩,hB.setCell (p:=⟨w.heap.size+1,0,none⟩) s_ _⟩
   exact hb2.set _
 case done =>
  rintro D ys W hD rfl ⟨⟨hp,hb1,hb2⟩,hB⟩ hK;have hc2':=hb2.cell;have hf2:=hb2.frozen;have HP:=hj_ hp;clear hp hB0 hB1
  gi_wp2
  have g2:=hb2.set (.slice none 0 0);have hK':=(KeepsOthers.setCell W ⟨w.heap.size+1,0,none⟩ (.slice none 0 0)).same D _ hK rfl;refine ⟨s_,.inl ⟨_,_,rfl,run_takeDeferred hK',?_⟩⟩
  have k2:=(Boxed.own g2 (grownBy_putObj' _ D (.deferred none)) (fun r e=>by cases e;exact ⟨_,hK',rfl⟩)).cell
  refine ⟨.slice none 0 0,by simp [results,f240,go_sem,k2],?_⟩
  refine ⟨_,rfl,qdq _ _ (qz6 fun j hj=>HP.out ⟨j,hj⟩ (mem_dn _)),?_,fun a n c h=>by cases h⟩
  exact (hB.setCell (p:=⟨w.heap.size+1,0,none⟩) s_ _).trans (belowK_b (w:=w) lr_ _ D _ (.deferred none) (by simp at hD;omega) hK' rfl rfl)
 case stop =>
  rintro D e pre W hD hpre ⟨⟨rfl,pre0,x,rfl,hp,hx,hb2⟩,hB⟩ hK;have HP:=hj_ hp;clear hp hB0 hB1
  gi_wp2
  refine ⟨s_,.inl ⟨_,_,rfl,run_takeDeferred hK,?_⟩⟩
  have k2:=(Boxed.own hb2 (grownBy_putObj' _ D (.deferred none)) (fun r e=>by cases e;exact ⟨_,hK,rfl⟩)).cell
  refine ⟨.slice A (x.val+1) c,by simp [results,f240,go_sem,k2],?_⟩
  have hBB:=hB.trans (belowK_b (w:=w) lr_ W D _ (.deferred none) (by simp at hD;omega) hK rfl rfl)
  have hcut:=qz5 o_ HW.out x.val x.isLt hx (fun j hj hxj=>HP.out ⟨j,hj⟩ (qik hpre ⟨j,hj⟩ hxj))
  have hxl:=x.isLt;have hlen:(wds 1000000000 (wv 1000000000 l)).length=x.val+1:=by rw [hcut,List.length_take];omega
  refine ⟨_,rfl,⟨A,c,by rw [hlen],by rw [hlen];omega,?_⟩,hBB,fun a n c h=>by injection h⟩
  rw [hcut]
  have:=(hl.take (x.val+1) o_).below hBB
  rwa [show (l.take (x.val+1)).length=x.val+1 from by rw [List.length_take];omega]
end
theorem infoU:(prog.info? 258).map (fun i=>(i.zero,i.size,i.bytes))=some (some (.int .u64 0),1,8):=k_
theorem u64_eq {b:Int} (h:a=b):Value.int .u64 a=Value.int .u64 b:=by rw [h]
theorem qfw (h:w.ownsRow base e 1 v n (uv l)):n=l.length:=by
 have:=h.1
 rw [qyt] at this;omega
theorem qfx {A:Option Addr} (h:w.ownsRow base e z (.slice A n c) n xs):c≤maxLen:=by
 rcases h.2 with ⟨h1,h2⟩ | ⟨g,cap,cur,hv,_,_,_,hm,_⟩
 ·injection h1 with e1 e2 e3;rw [e3];unfold maxLen;omega
 ·injection hv with e1 _ e3
  rw [e3];exact hm
theorem qi1 (A:Option Addr) (la c a:Nat) (B:Option Addr) (lb d b:Nat) (w:World) (ha:Us w A la (wds 1000000000 a)) (hb:Us w B lb (wds 1000000000 b)) (hla:la≤10000) (hlb:lb≤10000) :
  Calls prog 293 #[.slice A la c,.slice B lb d] w (RetM (a+b) w):=by
 have HA:=hj_ ha.1;have HB:=hj_ hb.1
 rcases Nat.lt_or_ge la lb with h | h
 ·obtain ⟨K,rfl⟩:=ex_ lb
  have k1:la≤K:=o_
  have k2:K≤K:=o_
  have K3:K≤10000:=o_
  go_enter func293,ntmps293
  go_wp2
  go_loopw [5,6,14] (fun v cv iv wr=>∃ (k:Nat) (L:List Nat) (cy:Nat),k≤K+1∧iv=.int .i64 k∧cv=.int .u64 cy∧wr.ownsRow w.heap.size 258 1 v k (uv L)∧AddAt 1000000000 a b k L cy∧Below w.heap.size w wr) (fun _ _ iv _=>K+1-(intOf iv).toNat)
  case atStart=>exact ⟨0,[],0,o_,rfl,rfl,World.ownsRow_nil _ _ _ _,q04 _ _ _,br_⟩
  case round =>
   obtain ⟨k,L,cy,hk,rfl,rfl,hown,hadd,hbw⟩:=hrel;have hsz:=hbw.size;have ha1:=ha.below hbw;have hb1:=hb.below hbw
   by_cases hlt:k<K+1
   ·obtain ⟨x,hx⟩:=xe_ ((wds 1000000000 a).getD k 0)
    obtain ⟨y,hy⟩:=xe_ ((wds 1000000000 b).getD k 0);obtain ⟨hst,hx9,hy9⟩:=q02 o_ hadd hx hy
    have hcy:=hadd.2.2.1;have HX:=hj_ hx;have HY:=hj_ hy;clear hx hy;have HAd:=hj_ hadd;have HSt:=hj_ hst;clear hadd hst;go_wp2_with fail;refine (at_any _ _ c _ k _ ha1 o_).mono ?_
    rw [HX.out];rintro e w1 ⟨rfl,rfl⟩;go_wp2_with fail;refine (at_any _ _ d _ k _ hb1 o_).mono ?_
    rw [HY.out];rintro e w1 ⟨rfl,rfl⟩;go_wp2_with (at_builtin;refine q003 rfl _ _ _ rfl w.heap.size _ _ 1 8 underlying235 infoU rfl o_ _ k (uv L) rfl hown [.int .u64 _] _ _ _ rfl (by first | rfl | simp) rfl (u_one _) (by unfold maxLen;omega) o_ (by first | omega | (simp;omega) | simp) ?_;intro g cap w1 hown1 hg1)
    go_roundw
    case rel=>exact ⟨k+1,_,_,o_,by go_num,u64_eq o_,by
     rw [qys];exact hown1,HSt.out,q1a hbw lr_ hown hg1⟩
    case measure=>simp [intOf];omega
   ·obtain rfl:k=K+1:=by omega
    obtain ⟨A',c',rfl⟩:=qfu hown;have hfin:=q00 o_ hadd (oh_ HA.out) (oh_ HB.out)
    have HW:=hj_ hadd.2.1;have HV:=hj_ hfin.2;clear hadd hfin;have hus:=Us.of_own hown (qfw hown);go_wp2_with fail;refine (q47 _ _ c' _ _ hus o_ (qfs hown) (qfx hown) HW.out).mono ?_
    rw [HV.out];rintro e w1 ⟨v,rfl,hm,hb2,hfr⟩;go_wp2_with fail;go_ret;exact ⟨_,rfl,hm,ht_ hbw hb2,fun a n c h=>(hown.lt a.block (by have:=hfr a n c h;first | (subst this;rfl) | (injection this with this;rw [← this];rfl))).1⟩
 ·obtain ⟨K,rfl⟩:=ex_ la
  have k1:K≤K:=o_
  have k2:lb≤K:=o_
  have K3:K≤10000:=o_
  go_enter func293,ntmps293
  go_wp2
  go_loopw [5,6,14] (fun v cv iv wr=>∃ (k:Nat) (L:List Nat) (cy:Nat),k≤K+1∧iv=.int .i64 k∧cv=.int .u64 cy∧wr.ownsRow w.heap.size 258 1 v k (uv L)∧AddAt 1000000000 a b k L cy∧Below w.heap.size w wr) (fun _ _ iv _=>K+1-(intOf iv).toNat)
  case atStart=>exact ⟨0,[],0,o_,rfl,rfl,World.ownsRow_nil _ _ _ _,q04 _ _ _,br_⟩
  case round =>
   obtain ⟨k,L,cy,hk,rfl,rfl,hown,hadd,hbw⟩:=hrel;have hsz:=hbw.size;have ha1:=ha.below hbw;have hb1:=hb.below hbw
   by_cases hlt:k<K+1
   ·obtain ⟨x,hx⟩:=xe_ ((wds 1000000000 a).getD k 0)
    obtain ⟨y,hy⟩:=xe_ ((wds 1000000000 b).getD k 0);obtain ⟨hst,hx9,hy9⟩:=q02 o_ hadd hx hy
    have hcy:=hadd.2.2.1;have HX:=hj_ hx;have HY:=hj_ hy;clear hx hy;have HAd:=hj_ hadd;have HSt:=hj_ hst;clear hadd hst;go_wp2_with fail;refine (at_any _ _ c _ k _ ha1 o_).mono ?_
    rw [HX.out];rintro e w1 ⟨rfl,rfl⟩;go_wp2_with fail;refine (at_any _ _ d _ k _ hb1 o_).mono ?_
    rw [HY.out];rintro e w1 ⟨rfl,rfl⟩;go_wp2_with (at_builtin;refine q003 rfl _ _ _ rfl w.heap.size _ _ 1 8 underlying235 infoU rfl o_ _ k (uv L) rfl hown [.int .u64 _] _ _ _ rfl (by first | rfl | simp) rfl (u_one _) (by unfold maxLen;omega) o_ (by first | omega | (simp;omega) | simp) ?_;intro g cap w1 hown1 hg1)
    go_roundw
    case rel=>exact ⟨k+1,_,_,o_,by go_num,u64_eq o_,by
     rw [qys];exact hown1,HSt.out,q1a hbw lr_ hown hg1⟩
    case measure=>simp [intOf];omega
   ·obtain rfl:k=K+1:=by omega
    obtain ⟨A',c',rfl⟩:=qfu hown;have hfin:=q00 o_ hadd (oh_ HA.out) (oh_ HB.out)
    have HW:=hj_ hadd.2.1;have HV:=hj_ hfin.2;clear hadd hfin;have hus:=Us.of_own hown (qfw hown);go_wp2_with fail;refine (q47 _ _ c' _ _ hus o_ (qfs hown) (qfx hown) HW.out).mono ?_
    rw [HV.out];rintro e w1 ⟨v,rfl,hm,hb2,hfr⟩;go_wp2_with fail;go_ret;exact ⟨_,rfl,hm,ht_ hbw hb2,fun a n c h=>(hown.lt a.block (by have:=hfr a n c h;first | (subst this;rfl) | (injection this with this;rw [← this];rfl))).1⟩
theorem qcs (A:Option Addr) (la c a:Nat) (B:Option Addr) (lb d b:Nat) (w:World) (ha:Us w A la (wds 1000000000 a)) (hb:Us w B lb (wds 1000000000 b)) (hla:la≤10000) (hlb:lb≤10000) (hab:b≤a) :
  Calls prog 243 #[.slice A la c,.slice B lb d] w (RetM (a-b) w):=by
 have HA:=hj_ ha.1
 go_enter func243,ntmps243
 go_wp2
 go_loopw [5,6,11] (fun v cv iv wr=>∃ (k:Nat) (L:List Nat) (cy:Nat),k≤la∧iv=.int .i64 k∧cv=.int .u64 cy∧wr.ownsRow w.heap.size 258 1 v k (uv L)∧SubAt 1000000000 a b k L cy∧Below w.heap.size w wr) (fun _ _ iv _=>la-(intOf iv).toNat)
 case atStart=>exact ⟨0,[],0,o_,rfl,rfl,World.ownsRow_nil _ _ _ _,qr5 _ _ _,br_⟩
 case round =>
  obtain ⟨k,L,cy,hk,rfl,rfl,hown,hsub,hbw⟩:=hrel;have hsz:=hbw.size;have ha1:=ha.below hbw;have hb1:=hb.below hbw
  by_cases hlt:k<la
  ·have hkl:k<(wds 1000000000 a).length:=by have:=HA.out;omega
   obtain ⟨bk,o,rfl,hbl,hc1⟩:=ha1.at1 hkl;have hx:(wds 1000000000 a).getD k 0=(wds 1000000000 a)[k]:=by rw [List.getD_eq_getElem?_getD,List.getElem?_eq_getElem hkl];rfl
   generalize (wds 1000000000 a)[k]=x at *;obtain ⟨y,hy⟩:=xe_ ((wds 1000000000 b).getD k 0);obtain ⟨hst,hx9,hy9,hyc,hq⟩:=qr3 o_ hsub hx hy
   have hcy:=hsub.2.2.1;have HY:=hj_ hy;have HSt:=hj_ hst;clear hx hy hsub hst;go_wp2_with fail;refine (at_any _ _ d _ k _ hb1 o_).mono ?_
   rw [HY.out];rintro e w1 ⟨rfl,rfl⟩;go_wp2_with (at_builtin;refine q003 rfl _ _ _ rfl w.heap.size _ _ 1 8 underlying235 infoU rfl o_ _ k (uv L) rfl hown [.int .u64 _] _ _ _ rfl (by first | rfl | simp) rfl (u_one _) (by unfold maxLen;omega) o_ (by first | omega | (simp;omega) | simp) ?_;intro g cap w1 hown1 hg1)
   go_roundw
   case rel=>exact ⟨k+1,_,_,o_,by go_num,u64_eq o_,by
    rw [qys];have e2:(((x+(1000000000-y-cy)) % 1000000000:Nat):Int)=((x:Int)+(1000000000-(y:Int)-(cy:Int))) % 1000000000:=o_
    simp only [uv,List.map_cons,List.map_nil];rw [e2];exact hown1,HSt.out,q1a hbw lr_ hown hg1⟩
   case measure=>simp [intOf];omega
  ·obtain rfl:k=la:=by omega
   obtain ⟨A',c',rfl⟩:=qfu hown;have hfin:=qr1 o_ hsub HA.out.symm hab
   have HW:=hj_ hsub.2.1;have HV:=hj_ hfin.2;clear hsub hfin;have hus:=Us.of_own hown (qfw hown);go_wp2_with fail;refine (q47 _ _ c' _ _ hus o_ (qfs hown) (qfx hown) HW.out).mono ?_
   rw [HV.out];rintro e w1 ⟨v,rfl,hm,hb2,hfr⟩;go_wp2_with fail;go_ret;exact ⟨_,rfl,hm,ht_ hbw hb2,fun a n c h=>(hown.lt a.block (by have:=hfr a n c h;first | (subst this;rfl) | (injection this with this;rw [← this];rfl))).1⟩
section
open Go.RowKit Go.Shelf
attribute [local go_sem] Oper.semAt_some
def Cmp (a b:Nat) (c:Int):Prop:=(c<0↔a<b)∧(0<c↔b<a)∧-1000000≤c∧c≤1000000
def RetC (a b:Nat) (w:World) (e:Ending) (w':World):Prop:=∃ c:Int,e=.returned (.int .i64 c)∧Cmp a b c∧Below w.heap.size w w'
theorem qol {k:List Nat} (hlen:l.length=k.length) (i:Nat) (h:∀ (y:Nat) (hy:y<l.length),i<y→l[y]=k[y]'(hlen ▸ hy)):l.drop (i+1)=k.drop (i+1):=by
 refine List.ext_getElem (by simp [hlen]) fun j h1 h2=>?_
 rw [List.getElem_drop,List.getElem_drop];exact h _ (by rw [List.length_drop] at h1;omega) o_
theorem q3s (A:Option Addr) (la c a:Nat) (B:Option Addr) (lb d b:Nat) (w:World) (ha:Us w A la (wds 1000000000 a)) (hb:Us w B lb (wds 1000000000 b)) (hla:la≤10000) (hlb:lb≤10000) :
  Calls prog 238 #[.slice A la c,.slice B lb d] w (RetC a b w):=by
 have bB:=(Boxed.new w 235 (.slice B lb d)).alloc (.cells #[.int .i64 0] 3);have bR:=Boxed.new (w.alloc (.cells #[.slice B lb d] 235)) 3 (.int .i64 0);rw [World.size_alloc] at bR;have hB0:Below w.heap.size w ((w.alloc (.cells #[.slice B lb d] 235)).alloc (.cells #[.int .i64 0] 3)):=((Below.refl _ w).alloc lr_ _).alloc s_ _
 have HA:=hj_ ha.1;have HB:=hj_ hb.1
 by_cases hl:la=lb
 ·subst hl
  have hlen:(wds 1000000000 a).length=(wds 1000000000 b).length:=by rw [← HA.out,← HB.out]
  generalize hLa:wds 1000000000 a=l at *;generalize hLb:wds 1000000000 b=k at *;have HLa:=hj_ hLa;have HLb:=hj_ hLb;obtain rfl:la=l.length:=HA.out;have Hlen:=hj_ hlen;clear hLa hLb hlen HA HB;refine (callsIn_wide (n:=5)).1 ?_;refine callsIn_of_wp_marks func238 rfl trivial ?_ rfl;simp only [ntmps238,List.size_toArray,List.length_cons,List.length_nil,Nat.reduceAdd,Nat.reduceSub,Array.replicate_succ,Array.replicate_zero,List.push_toArray,List.append_toArray,List.nil_append,List.cons_append]
  gi_wp2_with (refine ⟨trivial,?_⟩;gi_at_call 285;refine (q63 _ _ _ _ _).mono ?_;rintro e w' ⟨rfl,rfl⟩)
  have hB1:Below w.heap.size w (((w.alloc (.cells #[.slice B l.length d] 235)).alloc (.cells #[.int .i64 0] 3)).alloc (.cells #[.slice A l.length c] 235)):=hB0.alloc (by simp;omega) _
  have bS:=Boxed.new ((w.alloc (.cells #[.slice B l.length d] 235)).alloc (.cells #[.int .i64 0] 3)) 235 (.slice A l.length c);simp only [World.size_alloc] at bS;refine wpIn_rangeFunc_ownG rfl o_ (gf:=320) (lb:=#[.pointer (some ⟨w.heap.size+1+1,0,none⟩)]) rfl trivial (enters_of func320 k_ rfl)
   (q66 4 o_ (w.heap.size+1+1) w.heap.size A c l o_ _ (by simp;omega) bS (fun k hk=>by
    obtain ⟨b,o,e,hb,h1⟩:=ha.at1 hk;exact ⟨b,o,e,hb,(hB1.cell (p:=⟨b,_,none⟩) hb).trans h1⟩)) KpR.t (KpR.b (by simp;omega)) (br_) (fun _=>rfl)
   (fun pre W=>((∀ y ∈ pre,l[y]=k.getD y.val 0)∧Boxed W w.heap.size 235 (.slice B l.length d)∧Boxed W (w.heap.size+1) 3 (.int .i64 0))∧Below w.heap.size w W)
   (fun e pre W=>(e=.ret∧∃ (pre0:List (Fin l.length)) (x:Fin l.length),pre=pre0 ++ [x]∧(∀ y ∈ pre0,l[y]=k.getD y.val 0)∧((l[x]<k.getD x.val 0∧Boxed W (w.heap.size+1) 3 (.int .i64 (-1)))∨(k.getD x.val 0<l[x]∧Boxed W (w.heap.size+1) 3 (.int .i64 1))))∧Below w.heap.size w W)
   (OwnFrom.and (Own.from (fun (s:List (Fin l.length)) A B row hs hg hr=>⟨hs.1,Boxed.own hs.2.1 hg hr,Boxed.own hs.2.2 hg hr⟩) _) (ownFrom_below lr_ (by simp;omega)))
   (fun e=>OwnFrom.and (Own.from (fun (s:List (Fin l.length)) A B row hs hg hr=>⟨hs.1,hs.2.imp fun p h=>h.imp fun x h=>⟨h.1,h.2.1,h.2.2.imp (fun h=>⟨h.1,Boxed.own h.2 hg hr⟩) (fun h=>⟨h.1,Boxed.own h.2 hg hr⟩)⟩⟩) _) (ownFrom_below lr_ (by simp;omega)))
   ⟨⟨s_,bB.alloc _,bR.alloc _⟩,hB1⟩
   (fun x=>{ tmps:=#[.slice A l.length c,.slice B l.length d,undef,.pointer (some ⟨w.heap.size,0,none⟩),.pointer (some ⟨w.heap.size+1,0,none⟩),.int .i64 (x.val:Int),.int .u64 (l[x]:Nat),.slice A l.length c,.int .i64 l.length,.slice B l.length d,.int .i64 l.length,.bool false,undef,undef,undef,undef,undef,.slice A l.length c,.func (.func 320) #[] #[.pointer (some ⟨w.heap.size+1+1,0,none⟩)],.int .i64 (x.val:Int),.int .u64 (l[x]:Nat),undef,undef,undef,undef,undef,undef,undef,undef,undef,undef,undef,undef,undef,undef],defers:=[] }) ?assign ?body ?done ?stop
  case assign =>
   intro l x W K hK
   gi_wp2
   simpa using hK
  case body =>
   clear bB bR bS;rintro y0 pre ⟨x,hx⟩ W ⟨⟨hp,hb1,hb2⟩,hB⟩ hlt;have hc1:=hb1.cell;have hf1:=hb1.frozen;have hc2':=hb2.cell;have hf2:=hb2.frozen;have HP:=hj_ hp;have hxk:x<k.length:=by have:=Hlen.out;omega
   obtain ⟨bk,o,rfl,hbl,hcB⟩:=hb.at1 hxk;have hcB:=(hB.cell (p:=⟨bk,o+x,none⟩) hbl).trans hcB;have hbl':bk<W.heap.size:=Nat.lt_of_lt_of_le hbl hB.size;clear hp hlt hB0 hB1;simp only [Fin.getElem_fin];have hsz:=hB.size;obtain ⟨p,hpx⟩:=xe_ (l[x]);obtain ⟨q,hqx⟩:=xe_ (k[x]);rw [hqx] at hcB;rw [hpx];have hqd:k.getD x 0=q:=by rw [List.getD_eq_getElem?_getD,List.getElem?_eq_getElem hxk,← hqx];rfl
   have HPx:=hj_ hpx;have HQx:=hj_ hqd;clear hpx hqx hqd;have hll:(x:Int)<(l.length:Int):=o_
   rcases Nat.lt_trichotomy p q with h | h | h
   ·have h1:(p:Int)<(q:Int):=by omega
    gi_wp2
    exact ⟨(KeepsOthers.setCell _ _ _).from _,⟨rfl,_,_,rfl,HP.out,.inl ⟨by show l[x]<k.getD x 0;rw [HPx.out,HQx.out];exact h,hb2.set _⟩⟩,hB.setCell (p:=⟨w.heap.size+1,0,none⟩) s_ _⟩
   ·subst h
    gi_wp2
    exact ⟨KeepsFrom.refl _ _,KpR.refl _ _ _,⟨fun y hy=>(List.mem_append.1 hy).elim (HP.out y) (fun e=>by simp at e;subst e;show l[x]=k.getD x 0;rw [HPx.out,HQx.out]),hb1,hb2⟩,hB⟩
   ·have h1:¬ (p:Int)<(q:Int):=by omega
    have h2:(q:Int)<(p:Int):=o_
    gi_wp2
    exact ⟨(KeepsOthers.setCell _ _ _).from _,⟨rfl,_,_,rfl,HP.out,.inr ⟨by show k.getD x 0<l[x];rw [HPx.out,HQx.out];exact h,hb2.set _⟩⟩,hB.setCell (p:=⟨w.heap.size+1,0,none⟩) s_ _⟩
  case done =>
   rintro D ys W hD rfl ⟨⟨hp,hb1,hb2⟩,hB⟩ hK;have hc2':=hb2.cell;have hf2:=hb2.frozen;have HE:Hid (l=k):=List.ext_getElem Hlen.out fun j h1 h2=>by have:=hp ⟨j,h1⟩ (mem_dn _);rw [List.getD_eq_getElem?_getD,List.getElem?_eq_getElem h2] at this;exact this
   clear hp hB0 hB1
   gi_wp2
   have g2:=hb2.set (.int .i64 0);have hK':=(KeepsOthers.setCell W ⟨w.heap.size+1,0,none⟩ (.int .i64 0)).same D _ hK rfl;refine ⟨s_,.inl ⟨_,_,rfl,run_takeDeferred hK',?_⟩⟩
   have k2:=(Boxed.own g2 (grownBy_putObj' _ D (.deferred none)) (fun r e=>by cases e;exact ⟨_,hK',rfl⟩)).cell
   refine ⟨.int .i64 0,by simp [results,f238,go_sem,k2],?_⟩
   have hab:a=b:=qz9 (B:=1000000000) o_ (by rw [HLa.out,HLb.out,HE.out])
   refine ⟨_,rfl,⟨o_,o_,o_,o_⟩,?_⟩
   exact (hB.setCell (p:=⟨w.heap.size+1,0,none⟩) s_ _).trans (belowK_b (w:=w) lr_ _ D _ (.deferred none) (by simp at hD;omega) hK' rfl rfl)
  case stop =>
   rintro D e pre W hD hpre ⟨⟨rfl,pre0,x,rfl,hp,hx⟩,hB⟩ hK;have hxk:x.val<k.length:=by have:=Hlen.out;have:=x.isLt;omega
   have hxd:k.getD x.val 0=k[x.val]:=by rw [List.getD_eq_getElem?_getD,List.getElem?_eq_getElem hxk];rfl
   rw [hxd] at hx;have hdr:=qol Hlen.out x.val (fun y hy hxy=>by have h3:=hp ⟨y,hy⟩ (qik hpre ⟨y,hy⟩ hxy);rw [List.getD_eq_getElem?_getD,List.getElem?_eq_getElem (show y<k.length by have:=Hlen.out;omega)] at h3;exact h3)
   have wa:=wds_wd (B:=1000000000) o_ a
   have wb:=wds_wd (B:=1000000000) o_ b
   have va:=qzh (B:=1000000000) o_ a
   have vb:=qzh (B:=1000000000) o_ b
   rw [HLa.out] at wa va;rw [HLb.out] at wb vb;have hBB:=hB.trans (belowK_b (w:=w) lr_ W D _ (.deferred none) (by simp at hD;omega) hK rfl rfl)
   rcases hx with ⟨hx,hb2⟩ | ⟨hx,hb2⟩
   ·have hab:a<b:=by rw [← va,← vb];exact cmp_lt wa Hlen.out x.val x.isLt hdr hx
    clear hp hB0 hB1 hdr va vb hx hxd
    gi_wp2
    refine ⟨s_,.inl ⟨_,_,rfl,run_takeDeferred hK,?_⟩⟩
    have k2:=(Boxed.own hb2 (grownBy_putObj' _ D (.deferred none)) (fun r e=>by cases e;exact ⟨_,hK,rfl⟩)).cell
    refine ⟨.int .i64 (-1),by simp [results,f238,go_sem,k2],?_⟩
    exact ⟨_,rfl,⟨o_,o_,o_,o_⟩,hBB⟩
   ·have hab:b<a:=by rw [← va,← vb];exact cmp_lt wb Hlen.out.symm x.val hxk hdr.symm hx
    clear hp hB0 hB1 hdr va vb hx hxd
    gi_wp2
    refine ⟨s_,.inl ⟨_,_,rfl,run_takeDeferred hK,?_⟩⟩
    have k2:=(Boxed.own hb2 (grownBy_putObj' _ D (.deferred none)) (fun r e=>by cases e;exact ⟨_,hK,rfl⟩)).cell
    refine ⟨.int .i64 1,by simp [results,f238,go_sem,k2],?_⟩
    exact ⟨_,rfl,⟨o_,o_,o_,o_⟩,hBB⟩
 ·have hl':((la:Int) != (lb:Int))=true:=by simp;omega
  have hcmp:Hid (Cmp a b ((la:Int)-(lb:Int))):=by
   have h1:=@q3o 1000000000 a b o_
   have h2:=@q3o 1000000000 b a o_
   rw [← HA.out,← HB.out] at h1 h2;refine ⟨?_,?_,o_,o_⟩ <;> constructor <;> intro h
   ·exact h1 o_
   ·rcases Nat.lt_or_ge la lb with g | g
    ·omega
    ·have:=h2 o_;omega
   ·exact h2 o_
   ·rcases Nat.lt_or_ge lb la with g | g
    ·omega
    ·have:=h1 o_;omega
  clear hl
  go_enter func238,ntmps238
  go_wp2;exact bodyPost_ret (v:=.int .i64 ((la:Int)-(lb:Int))) (by simp [results,f238,go_sem]) rfl ⟨_,rfl,hcmp.out,bz_⟩
end
theorem qdp (n:Nat):(madeCells (Value.int .u64 0).cells (n*1)).toList=uv (List.replicate n 0):=by
 rw [← qyu];refine List.ext_getElem (by simp [madeCells]) fun i h1 h2=>?_
 simp [madeCells,Value.cells,Nat.mod_one]
theorem at_q (A:Option Addr) (n c:Nat) (l:List Nat) (i:Nat) (v:Int) (w:World) (hl:Us w A n l) (hn:n≤1000000) (hv:((l.getD i 0:Nat):Int)=v) :
  Calls prog 291 #[.slice A n c,.int .i64 i] w fun e w'=>e=.returned (.int .u64 v)∧w' = w :=
 (at_any A n c l i w hl hn).mono fun e w' ⟨he,hw⟩=>⟨by rw [he,hv],hw.symm⟩
theorem qsj (A:Option Addr) (la c a:Nat) (B:Option Addr) (lb d b:Nat) (w:World) (ha:Us w A la (wds 1000000000 a)) (hb:Us w B lb (wds 1000000000 b)) (hla:la≤10000) (hlb:lb≤10000) :
  Calls prog 241 #[.slice A la c,.slice B lb d] w (RetM (a*b) w):=by
 have HA:=hj_ ha.1;have HB:=hj_ hb.1;obtain ⟨i0,hi,hz0,hzz1,hz2⟩:=info_parts infoU;obtain ⟨N,hN⟩:=ex_ (la+lb);have hN1:N≤20000:=o_
 have HN:=hj_ hN;clear hN
 go_enter func241,ntmps241
 go_wp2_with (refine wpList_make_full _ rfl _ _ _ rfl w.heap.size 258 i0 (.int .u64 0) 1 underlying235 hi hz0 hzz1 .i64 .i64 _ _ N rfl rfl (oh_ HN.out) (oh_ HN.out) (by rw [hz2];omega) (by unfold maxLen;omega) lr_ ?_;intro w0 hown0 hg0;rw [qdp] at hown0)
 have hB0:Below w.heap.size w w0:=(br_).grown hg0 lr_ (fun k e=>by cases e)
 go_loopw [18] (fun iv wr=>∃ (k:Nat) (O:List Nat),k≤la∧iv=.int .i64 k∧wr.ownsRow w.heap.size 258 1 (.slice (some ⟨w.heap.size,0,none⟩) N N) N (uv O)∧Wd 1000000000 O∧wv 1000000000 O=wv 1000000000 ((wds 1000000000 a).take k)*b∧Below w.heap.size w wr) (fun iv _=>la-(intOf iv).toNat)
 case atStart=>exact ⟨0,_,o_,rfl,hown0,Wd.replicate o_ _,by rw [q00h];simp [wv],hB0⟩
 case round =>
  clear hown0 hg0 hB0 hi hz0 hzz1 hz2;obtain ⟨k,O,hk,rfl,hown,hwd,hval,hbw⟩:=hrel;have hsz:=hbw.size;have HWd:=hj_ hwd;have HVal:=hj_ hval;clear hwd hval
  by_cases hlt:k<la
  ·have hkl:k<(wds 1000000000 a).length:=by have:=HA.out;omega
   obtain ⟨bk,o,rfl,hbl,hc1⟩:=(ha.below hbw).at1 hkl;have hx:(wds 1000000000 a).getD k 0=(wds 1000000000 a)[k]:=by rw [List.getD_eq_getElem?_getD,List.getElem?_eq_getElem hkl];rfl
   have hv9:=(wds_wd (B:=1000000000) o_ a).at hkl
   generalize (wds 1000000000 a)[k]=v at *;have HX:=hj_ hx;clear hx;obtain ⟨wo,rfl⟩:∃ wo:World,wo=wr:=⟨_,rfl⟩;go_wp2
   go_loopw [8,26] (fun cv jv wr=>∃ (j:Nat) (O:List Nat) (cy:Nat),j≤lb+1∧jv=.int .i64 j∧cv=.int .u64 cy∧wr.ownsRow w.heap.size 258 1 (.slice (some ⟨w.heap.size,0,none⟩) N N) N (uv O)∧MulAt 1000000000 (wv 1000000000 ((wds 1000000000 a).take k)*b) v b k j O cy∧Below w.heap.size w wr) (fun _ jv _=>lb+1-(intOf jv).toNat)
   case atStart=>exact ⟨0,O,0,o_,rfl,rfl,hown,qe3 o_ HWd.out HVal.out,hbw⟩
   case round =>
    clear hown hbw hc1 hsz;obtain ⟨j,O,cy,hj,rfl,rfl,hown,hmul,hbw⟩:=hrel;have hsz:=hbw.size;have hOl:=qfw hown
    by_cases hjl:j<lb+1
    ·have hkj:k+j<O.length:=by have:=HN.out;omega
     obtain ⟨y,hy⟩:=xe_ ((wds 1000000000 b).getD j 0);obtain ⟨o,ho⟩:=xe_ (O[k+j]);obtain ⟨hst,hlt2,hy9,ho9⟩:=qe1 o_ hmul hkj ho hy hv9
     have hcy:=hmul.2.1;have hcell:=hown.cellAt (k+j) o_
     rw [show (uv O)[k+j]? = some (.int .u64 (o:Int)) from by simp [uv,hkj,ho]] at hcell
     have hfroz:=hown.frozenAt (k+j);have hbq:=hb.below hbw;obtain ⟨p,hp⟩:=ex_ (v*y);have hpi:(v:Int)*(y:Int)=(p:Int):=by rw [hp];exact_mod_cast rfl
     rw [← hp] at hst hlt2;have HY:=hj_ hy;have HSt:=hj_ hst;have hkN:(k:Int)+(j:Int)<(N:Int):=by have:=HN.out;omega
     have hne:(((k:Int)+(j:Int)) == (N:Int))=false:=by simp;omega
     clear hy hst hp ho hOl hmul;have hp1:p≤999999999999999999:=o_
     have q1:IntKind.i64.wrap ((k:Int)+(j:Int))=(k:Int)+(j:Int):=IntWalk.i64_in _ o_
     have q2:IntKind.u64.wrap ((v:Int)*(y:Int))=(p:Int):=by rw [hpi];exact IntWalk.u64_in _ o_
     have q3:IntKind.u64.wrap ((o:Int)+(p:Int))=(o:Int)+(p:Int):=IntWalk.u64_in _ o_
     have q4:IntKind.u64.wrap ((cy:Int)+((o:Int)+(p:Int)))=(cy:Int)+((o:Int)+(p:Int)):=IntWalk.u64_in _ o_
     have q5:((k:Int)+(j:Int)).toNat=k+j:=o_
     have q6:0≤(k:Int)+(j:Int):=o_
     go_wp2;have hq:∀ n,_:=fun n=>at_q B lb d _ j (y:Int) (wr.drewN n) (hbq.below (q18 (br_) n)) o_ (by rw [HY.out])
     have HQ:=hj_ hq;clear hq;go_quiet ((go_at_call 291;exact Calls.quiet_of_same (HQ.out _)));clear q1 q2 q3 q4;have hs1:cy+(o+p)≤999999999999999999:=o_
     go_wp2
     go_roundw
     case rel=>exact ⟨j+1,_,_,o_,by go_num,u64_eq o_,by
      have h1:=(hown.stored (k+j) (.int .u64 (((cy+(o+p)) % 1000000000:Nat):Int))).1;rw [uv_set] at h1;exact h1,HSt.out,bz_⟩
     case measure=>simp [intOf];omega
    ·obtain rfl:j=lb+1:=by omega
     have hfin:=qe0 o_ hmul (oh_ HB.out) hkl HX.out
     have HF:=hj_ hfin.2;have HW:=hj_ hmul.1;clear hmul hfin;go_wp2
     go_roundw
     case rel=>exact ⟨k+1,O,o_,by go_num,hown,HW.out,HF.out,hbw⟩
     case measure=>simp [intOf];omega
  ·obtain rfl:k=la:=by omega
   have hv:wv 1000000000 O=a*b:=by rw [HVal.out,qrx o_ a k (oh_ HA.out)]
   have HV:=hj_ hv;clear hv;have hus:=Us.of_own hown (qfw hown);go_wp2_with fail;refine (q47 _ _ N _ _ hus o_ (qfs hown) (qfx hown) HWd.out).mono ?_
   rw [HV.out];rintro e w1 ⟨v,rfl,hm,hb2,hfr⟩;go_wp2_with fail;go_ret;exact ⟨_,rfl,hm,ht_ hbw hb2,fun a n c h=>(hown.lt a.block (by have:=hfr a n c h;first | (subst this;rfl) | (injection this with this;rw [← this];rfl))).1⟩
def gss (R N k:Nat):Nat:=min (((wds 1000000000 R).getD ((wds 1000000000 N).length+k) 0*1000000000+(wds 1000000000 R).getD ((wds 1000000000 N).length+k-1) 0) / (wds 1000000000 N).getD ((wds 1000000000 N).length-1) 0) (1000000000-1)
theorem gss_ge {R N k:Nat} (hN:0<N) (hR:R<N*1000000000 ^ k*1000000000):R / (N*1000000000 ^ k)≤gss R N k∧gss R N k<1000000000:=by
 have hL:=(qzc (B:=1000000000) (n:=N) o_).2 hN
 have h:=qaj (B:=1000000000) (R:=R) (N:=N) (k:=k) (L:=(wds 1000000000 N).length) o_ hL (wds_ge o_ hN) hR (wds_lt o_ N)
 unfold gss;rw [wds_at o_,wds_at o_,wds_at o_]
 exact ⟨h,o_⟩
theorem at_i (A:Option Addr) (n c:Nat) (l:List Nat) (z:Int) (i:Nat) (v:Int) (w:World) (hl:Us w A n l) (hn:n≤1000000) (hz:z=(i:Int)) (hv:((l.getD i 0:Nat):Int)=v) :
  Calls prog 291 #[.slice A n c,.int .i64 z] w fun e w'=>e=.returned (.int .u64 v)∧w' = w:=by
 subst hz;exact at_q A n c l i v w hl hn hv
theorem qai (A:Option Addr) (la c R:Nat) (B:Option Addr) (lb d N:Nat) (k:Nat) (w:World) (ha:Us w A la (wds 1000000000 R)) (hb:Us w B lb (wds 1000000000 N)) (hla:la≤10000) (hlb:lb≤10000) (hN:0<N) (hk:k≤10000) :
  Calls prog 242 #[.slice A la c,.slice B lb d,.int .i64 k] w fun e w'=>e=.returned (.int .u64 (gss R N k:Nat))∧∃ n,w' = w.drewN n:=by
 have hL:=(qzc (B:=1000000000) (n:=N) o_).2 hN
 rw [← hb.1] at hL;have hG:=hj_ (show gss R N k=min (((wds 1000000000 R).getD (lb+k) 0*1000000000+(wds 1000000000 R).getD (lb+k-1) 0) / (wds 1000000000 N).getD (lb-1) 0) (1000000000-1) from by unfold gss;rw [← hb.1])
 obtain ⟨L1,hL1⟩:=ex_ (lb-1);obtain ⟨T,hT⟩:=ex_ (lb+k);obtain ⟨T1,hT1⟩:=ex_ (lb+k-1);have hkl:L1<(wds 1000000000 N).length:=by rw [← hb.1];omega
 obtain ⟨bk,o,rfl,hbl,hc⟩:=hb.at1 hkl;have hz:(wds 1000000000 N).getD L1 0=(wds 1000000000 N)[L1]:=by rw [List.getD_eq_getElem?_getD,List.getElem?_eq_getElem hkl];rfl
 have hz9:=(wds_wd (B:=1000000000) o_ N).at hkl
 have hz0:0<(wds 1000000000 N)[L1]:=by
  have h1:=qzg (B:=1000000000) o_ N ((wds 1000000000 N)[L1]) (by
   rw [List.getLast?_eq_getElem?,← hb.1,← hL1,List.getElem?_eq_getElem hkl])
  omega
 obtain ⟨z,hzz⟩:=ex_ ((wds 1000000000 N)[L1]);rw [← hzz] at hc hz hz9 hz0;obtain ⟨x,hx⟩:=xe_ ((wds 1000000000 R).getD T 0);obtain ⟨y,hy⟩:=xe_ ((wds 1000000000 R).getD T1 0);have hx9:x<1000000000:=by rw [← hx];exact qa0 o_ (wds_wd o_ R) T
 have hy9:y<1000000000:=by rw [← hy];exact qa0 o_ (wds_wd o_ R) T1
 obtain ⟨V,hV⟩:=ex_ (x*1000000000+y);obtain ⟨Q,hQ⟩:=ex_ (V / z);have hVle:V<1000000000000000000:=o_
 have hQle:Q≤V:=by rw [hQ];exact Nat.div_le_self _ _
 have hfin:=hj_ (show gss R N k=min Q (1000000000-1) from by rw [hG.out,hQ,hV,← hL1,← hT1,← hT,hz,hx,hy])
 have t1:(lb:Int)+(k:Int)=(T:Int):=o_
 have t2:IntKind.i64.wrap ((T:Int)-1)=(T:Int)-1:=IntWalk.i64_in _ o_
 have t3:IntKind.i64.wrap ((lb:Int)-1)=(lb:Int)-1:=IntWalk.i64_in _ o_
 have t12:((lb:Int)-1).toNat=L1:=o_
 have t13:0≤(lb:Int)-1:=o_
 have t4:IntKind.u64.wrap ((x:Int)*1000000000)=(x:Int)*1000000000:=IntWalk.u64_in _ o_
 have t5:IntKind.u64.wrap ((x:Int)*1000000000+(y:Int))=(x:Int)*1000000000+(y:Int):=IntWalk.u64_in _ o_
 have t14:(x:Int)*1000000000+(y:Int)=(V:Int):=o_
 have t6:IntKind.u64.wrap (((x:Int)*1000000000+(y:Int)).tdiv (z:Int))=(Q:Int):=by
  rw [t14,Int.tdiv_eq_ediv_of_nonneg o_,← Int.natCast_ediv,← hQ]
  exact IntWalk.u64_in _ ⟨Int.natCast_nonneg _,o_⟩
 have t7:IntKind.u64.wrap (((x:Int)*1000000000+(y:Int)) / (z:Int))=(Q:Int):=by rw [← Int.tdiv_eq_ediv_of_nonneg o_];exact t6
 have t8:(z:Int)≠0:=o_
 have t9:((z:Int) == 0)=false:=by simp;omega
 have t10:¬ z=0:=o_
 have t11:(L1:Int)<(lb:Int):=o_
 have hq1:Hid (∀ n,Calls prog 291 #[.slice A la c,.int .i64 (T:Int)] (w.drewN n) fun e w'=>e=.returned (.int .u64 (x:Int))∧w' = w.drewN n):=fun n=>at_i A la c _ _ T _ (w.drewN n) (ha.below (q18 (br_) n)) o_ rfl (by rw [hx])
 have hq2:Hid (∀ n,Calls prog 291 #[.slice A la c,.int .i64 ((T:Int)-1)] (w.drewN n) fun e w'=>e=.returned (.int .u64 (y:Int))∧w' = w.drewN n):=fun n=>at_i A la c _ _ T1 _ (w.drewN n) (ha.below (q18 (br_) n)) o_ o_ (by rw [hy])
 have HT1:=hj_ t1;clear hG hL1 hT hT1 hz hzz hx hy hV hQ hVle hQle hz9 hz0 hx9 hy9 t1 t14 hL ha
 by_cases hQ9:Q≤999999999
 ·have hm1:min Q (1000000000-1)=Q:=by omega
  rw [hm1] at hfin;have hm2:¬ (999999999:Int)<(Q:Int):=o_
  have hm3:(Q:Int)≤999999999:=o_
  have hm4:¬ (Q:Int)<0:=o_
  clear hm1
  go_enter func242,ntmps242
  go_wp2;rw [HT1.out];go_quiet ((go_at_call 291;first | (with_reducible exact Calls.quiet_of_same (hq1.out _)) | (with_reducible exact Calls.quiet_of_same (hq2.out _))))
  go_wp2;go_ret;exact ⟨qm0 (by rw [hfin.out]),_,rfl⟩
 ·have hm1:min Q (1000000000-1)=999999999:=by omega
  rw [hm1] at hfin;have hm2:(999999999:Int)<(Q:Int):=o_
  have hm3:¬ (Q:Int)≤999999999:=o_
  clear hm1
  go_enter func242,ntmps242
  go_wp2;rw [HT1.out];go_quiet ((go_at_call 291;first | (with_reducible exact Calls.quiet_of_same (hq1.out _)) | (with_reducible exact Calls.quiet_of_same (hq2.out _))))
  go_wp2;go_ret;exact ⟨qm0 (by rw [hfin.out];rfl),_,rfl⟩
section
open Go.RowKit Go.Shelf
attribute [local go_sem] Oper.semAt_some
def wst (d:Nat) (l:List Nat) (pre:List (Fin l.length)):List Nat × Nat :=
 pre.foldl (fun s x=>(s.1.set x.val ((s.2*1000000000+l[x]) / d),(s.2*1000000000+l[x]) % d)) (List.replicate l.length 0,0)
theorem q00e (d:Nat) (l:List Nat) (pre:List (Fin l.length)) (x:Fin l.length) :
  wst d l (pre ++ [x])=((wst d l pre).1.set x.val (((wst d l pre).2*1000000000+l[x]) / d),((wst d l pre).2*1000000000+l[x]) % d):=by
 unfold wst;rw [List.foldl_append];rfl
theorem q00d (hd:0<d) (hl:Wd 1000000000 l) (pre:List (Fin l.length)):(wst d l pre).1.length=l.length∧(wst d l pre).2<d∧Wd 1000000000 (wst d l pre).1:=by
 refine qqf (P:=fun pre=>(wst d l pre).1.length=l.length∧(wst d l pre).2<d∧Wd 1000000000 (wst d l pre).1) ?_ ?_ pre
 ·exact ⟨by simp [wst],hd,Wd.replicate o_ _⟩
 ·intro pre x ⟨h1,h2,h3⟩
  rw [q00e];refine ⟨by simp [h1],Nat.mod_lt _ hd,h3.set (Nat.div_lt_of_lt_mul ?_) _⟩
  have hx:=hl.at x.isLt;have h4:((wst d l pre).2+1)*1000000000≤d*1000000000:=Nat.mul_le_mul_right _ h2;show (wst d l pre).2*1000000000+l[x.val]<d*1000000000
  omega
theorem wst_at (t k:Nat) (h:t+k=l.length) :
  wv 1000000000 (l.drop k)=d*wv 1000000000 ((wst d l ((dn l).take t)).1.drop k)+(wst d l ((dn l).take t)).2∧(wst d l ((dn l).take t)).1.length=l.length:=by
 induction t generalizing k with
 | zero =>
  obtain rfl:k=l.length:=o_
  simp [wst,wv]
 | succ t ih =>
  obtain ⟨ih1,ih2⟩:=ih (k+1) o_
  have hk:k<l.length:=o_
  have hx:(⟨l.length-1-t,o_⟩:Fin l.length)=⟨k,hk⟩:=Fin.ext (by simp;omega)
  rw [q5z l t o_,hx,q00e]
  clear ih hx;generalize wst d l ((dn l).take t)=s at ih1 ih2 ⊢;refine ⟨?_,by simp [ih2]⟩
  have hdr:(s.1.set k ((s.2*1000000000+l[k]) / d)).drop k=(s.2*1000000000+l[k]) / d :: s.1.drop (k+1):=by
   rw [List.drop_eq_getElem_cons (by simp [ih2,hk])]
   simp [List.drop_set]
  show wv 1000000000 (l.drop k)=d*wv 1000000000 ((s.1.set k ((s.2*1000000000+l[k]) / d)).drop k)+(s.2*1000000000+l[k]) % d
  rw [hdr,q6g _ l k hk];exact qzn ih1
theorem q00c (l:List Nat) (hd:0<d) (hl:Wd 1000000000 l):wv 1000000000 (wst d l (dn l)).1=wv 1000000000 l / d∧(wst d l (dn l)).2=wv 1000000000 l % d:=by
 have h:=(wst_at (d:=d) (l:=l) l.length 0 o_).1
 rw [List.take_of_length_le (by rw [q5y];omega)] at h
 simp only [List.drop_zero] at h;have h2:=(q00d hd hl (dn l)).2.1;rw [h,Nat.mul_add_div hd,Nat.div_eq_of_lt h2,Nat.mul_add_mod,Nat.mod_eq_of_lt h2];exact ⟨o_,rfl⟩
theorem qfv {row:Option Nat} (h:W.ownsRow base e z v n xs) (hg:W.grownBy W' row) (hr:∀ r,row=some r→∃ o:Obj,W.heap[r]? = some o∧o.isCells=false):W'.ownsRow base e z v n xs:=by
 refine h.kept hg ?_
 rcases h.2 with ⟨rfl,_⟩ | ⟨g,cap,cur,rfl,_,hb,_⟩
 ·exact .inl rfl
 ·refine .inr fun e=>?_
  obtain ⟨o,ho,hc⟩:=hr g e.symm;rw [hb] at ho
  cases ho
  simp [Obj.isCells] at hc
theorem q000 {F:Fence} {P:Program} (w:World) {ops:Array Oper} {rest:List Oper} {o:Oper} {a:Act} {Q:Exit→Act→World→Prop}
  (hg:o.guard=none) (l c:Operand) (t:TypeId) (hop:o.op=Op.makeSlice t l c)
  (base:Nat) (e:TypeId) (i:TypeInfo) (z:Value) (size:Nat) (h1:P.underlying t=some (.slice e)) (h2:P.info? e=some i) (h3:i.zero=some z) (h4:i.size=size)
  (kl kc:IntKind) (L C:Int) (m:Nat) (hl:a.eval l=.int kl L) (hc:a.eval c=.int kc C) (hL:L=(m:Int)) (hC:C=(m:Int)) (b2:i.bytes*m≤281474976710656) (b3:m≤maxLen) (b4:base≤w.heap.size)
  (hK:∀ w',w'.ownsRow base e size (.slice (some ⟨w.heap.size,0,none⟩) m m) m (madeCells z.cells (m*size)).toList→w.grownBy w' none→wpListIn F n P ops Q rest (a.put o.dst (.slice (some ⟨w.heap.size,0,none⟩) m m)) w') :
  wpListIn F n P ops Q (o :: rest) a w:=by
 refine wpListIn_plain hg fun K hK'=>?_
 obtain ⟨w',hrun,r1,r2⟩:=run_make_full (P:=P) w base t e i z size h1 h2 h3 h4 kl kc m b2 b3 b4;subst hL;subst hC;unfold Oper.wpIn;refine ⟨?_,?_⟩
 ·simp [Oper.about,hop]
 ·rw [Oper.semAt_plain F _ _ (by rw [hop];intro c hc';cases hc')]
  simp [execOp,hop,hl,hc,hrun,Result.andThen];exact hK' _ _ (hK w' r1 r2)
theorem KpR.put {t:TypeId} (h:KpR n₀ t A W) {i:Nat} {cur:Array Value} {fz:Nat × Nat} (hg:W.heap[g]? = some (.cells cur tb fz)) (hne:tb≠t) (hx:n₀≤g) (u:Value):KpR n₀ t A (W.setCell ⟨g,i,none⟩ u) :=
 ⟨h.1.setCell (p:=⟨g,i,none⟩) hx u,fun k c hk=>by
  have h1:=h.2 k c hk;rw [Below.heap_setCell _ _ _ _ (by
   intro e;have e:k=g:=e;subst e;rw [hg] at h1
   injection h1 with h1
   injection h1 with _ h2
   exact hne h2)]
  exact h1⟩
theorem KpR.drew {t:TypeId} (h:KpR n₀ t A W):KpR n₀ t A W.drew:=⟨h.1.drew,h.2⟩
theorem qdr {m D:Nat} {x:Option (List Deferred)} (h:Mag W v m) (hK:W.heap[D]? = some (.deferred x)):Mag (W.putObj D (.deferred none)) v m:=by
 obtain ⟨A,c,e,hc,h1,h2⟩:=h;refine ⟨A,c,e,hc,h1,h2.keep s_ fun b o _=>?_⟩
 by_cases hb:b=D
 ·subst hb
  have h3:(W.putObj b (.deferred none)).heap[b]? = some (.deferred none):=by
   simp [World.putObj,(Array.getElem?_eq_some_iff.1 hK).1]
  simp [World.cell?,hK,h3]
 ·exact World.cell?_of_block (World.putObj_heap_other hb)
theorem qfr (h:w.ownsRow base e z (.slice (some ⟨g,0,none⟩) n c) n xs):∃ cur,w.heap[g]? = some (.cells cur e (0,0)):=by
 rcases h.2 with ⟨h1,_⟩ | ⟨g',cap,cur,hv,_,hb,_⟩
 ·cases h1
 ·injection hv with e1
  injection e1 with e1
  injection e1 with e1
  subst e1;exact ⟨cur,hb⟩
theorem list11 {b:List Bool} (h:b.length=11):∃ b0 b1 b2 b3 b4 b5 b6 b7 b8 b9 b10:Bool,b=[b0,b1,b2,b3,b4,b5,b6,b7,b8,b9,b10] :=
 match b,h with
 | [b0,b1,b2,b3,b4,b5,b6,b7,b8,b9,b10],_=>⟨b0,b1,b2,b3,b4,b5,b6,b7,b8,b9,b10,rfl⟩
def RetQ (q r:Nat) (w:World) (e:Ending) (w':World):Prop:=∃ v,e=.returned (.tuple #[v,.int .u64 r])∧Mag w' v q∧Below w.heap.size w w'
theorem qzm (A:Option Addr) (n c m d:Nat) (w:World) (hl:Us w A n (wds 1000000000 m)) (hn:n≤10000) (hd:1≤d) (hd2:d≤1000000000) :
  Calls prog 239 #[.slice A n c,.int .u64 d] w (RetQ (m / d) (m % d) w):=by
 have hw:=wds_wd (B:=1000000000) o_ m
 have hval:=qzh (B:=1000000000) o_ m
 generalize wds 1000000000 m=l at *;obtain ⟨rfl,_⟩:=id hl;have hend:=q00c l hd hw;rw [hval] at hend;have HEnd:=hj_ hend;have HSafe:=hj_ (q00d hd hw);have HW:=hj_ hw;clear hval hw hend;obtain ⟨i0,hi,hz0,hzz1,hz2⟩:=info_parts infoU;refine (callsIn_wide (n:=5)).1 ?_;refine callsIn_of_wp_marks func239 rfl trivial ?_ rfl;simp only [ntmps239,List.size_toArray,List.length_cons,List.length_nil,Nat.reduceAdd,Nat.reduceSub,Array.replicate_succ,Array.replicate_zero,List.push_toArray,List.append_toArray,List.nil_append,List.cons_append]
 gi_wp2_with (first | (refine ⟨trivial,?_⟩;gi_at_call 285;refine (q63 _ _ _ _ _).mono ?_;rintro e w' ⟨rfl,rfl⟩) | (refine q000 _ rfl _ _ _ rfl w.heap.size 258 i0 (.int .u64 0) 1 underlying235 hi hz0 hzz1 .i64 .i64 _ _ l.length rfl rfl rfl rfl (by rw [hz2];omega) (by unfold maxLen;omega) s_ ?_;intro w1 hown1 hg1;rw [qdp] at hown1;have hz1:=hg1.size;simp at hz1))
 clear hi hz0 hzz1 hz2;simp only [World.size_alloc] at hown1;have bD0:Boxed w1 w.heap.size 258 (.int .u64 (d:Int)):=(Boxed.new w 258 (.int .u64 (d:Int))).kept hg1 s_
 have hB1:Below w.heap.size w w1:=((Below.refl _ w).alloc lr_ _).grown hg1 s_ (fun k e=>by cases e)
 clear hg1;have hgS:=(hown1.lt _ rfl).2;generalize hS:w1.heap.size=S at *;have HS:=hj_ hS;clear hS;have bO:=Boxed.new w1 235 (.slice (some ⟨w.heap.size+1,0,none⟩) l.length l.length);have bR:=Boxed.new (w1.alloc (.cells #[.slice (some ⟨w.heap.size+1,0,none⟩) l.length l.length] 235)) 258 (.int .u64 0);have bS:=Boxed.new ((w1.alloc (.cells #[.slice (some ⟨w.heap.size+1,0,none⟩) l.length l.length] 235)).alloc (.cells #[.int .u64 0] 258)) 235 (.slice A l.length c);simp only [World.size_alloc,HS.out] at bO bR bS;have hB3:Below w.heap.size w (((w1.alloc (.cells #[.slice (some ⟨w.heap.size+1,0,none⟩) l.length l.length] 235)).alloc (.cells #[.int .u64 0] 258)).alloc (.cells #[.slice A l.length c] 235)):=((hB1.alloc (by rw [HS.out];omega) _).alloc (by simp [HS.out];omega) _).alloc (by simp [HS.out];omega) _
 have hsz3:(((w1.alloc (.cells #[.slice (some ⟨w.heap.size+1,0,none⟩) l.length l.length] 235)).alloc (.cells #[.int .u64 0] 258)).alloc (.cells #[.slice A l.length c] 235)).heap.size=S+3:=by simp [HS.out]
 have hown3:=((hown1.alloc (.cells #[.slice (some ⟨w.heap.size+1,0,none⟩) l.length l.length] 235)).alloc (.cells #[.int .u64 0] 258)).alloc (.cells #[.slice A l.length c] 235);refine wpIn_rangeFunc_ownG rfl o_ (gf:=320) (lb:=#[.pointer (some ⟨S+1+1,0,none⟩)]) rfl trivial (enters_of func320 k_ rfl)
  (q66 4 o_ (S+1+1) w.heap.size A c l o_ _ (by rw [hsz3];omega) bS (fun k hk=>by
   obtain ⟨b,o,e,hb,h1⟩:=hl.at1 hk;exact ⟨b,o,e,hb,(hB3.cell (p:=⟨b,_,none⟩) hb).trans h1⟩)) KpR.t (KpR.b (by rw [hsz3];omega)) (br_) (fun _=>rfl)
  (fun pre W=>(Boxed W w.heap.size 258 (.int .u64 (d:Int))∧W.ownsRow w.heap.size 258 1 (.slice (some ⟨w.heap.size+1,0,none⟩) l.length l.length) l.length (uv (wst d l pre).1)∧Boxed W S 235 (.slice (some ⟨w.heap.size+1,0,none⟩) l.length l.length)∧Boxed W (S+1) 258 (.int .u64 ((wst d l pre).2:Int)))∧Below w.heap.size w W)
  (fun _ _ _=>False)
  (OwnFrom.and (Own.from (fun (s:List (Fin l.length)) A B row hs hg hr=>⟨Boxed.own hs.1 hg hr,qfv hs.2.1 hg hr,Boxed.own hs.2.2.1 hg hr,Boxed.own hs.2.2.2 hg hr⟩) _) (ownFrom_below lr_ (by rw [hsz3];omega)))
  (fun _ _ _ _ _ hs _ _=>hs)
  ⟨⟨((bD0.alloc _).alloc _).alloc _,hown3,(bO.alloc _).alloc _,bR.alloc _⟩,hB3⟩
  (fun x=>{ tmps:=#[.slice A l.length c,.int .u64 (d:Int),undef,.pointer (some ⟨w.heap.size,0,none⟩),.slice none 0 0,.int .u64 0,.pointer (some ⟨S,0,none⟩),.pointer (some ⟨S+1,0,none⟩),.int .i64 (x.val:Int),.int .u64 (l[x]:Nat),.slice A l.length c,.int .i64 l.length,.slice (some ⟨w.heap.size+1,0,none⟩) l.length l.length,.slice A l.length c,.func (.func 320) #[] #[.pointer (some ⟨S+1+1,0,none⟩)],.int .i64 (x.val:Int),.int .u64 (l[x]:Nat),undef,undef,undef,undef,undef,undef,undef,undef,undef,undef,undef,undef,undef,undef,undef,undef],defers:=[] }) ?assign ?body ?done ?stop
 case assign =>
  intro l x W K hK
  gi_wp2
  simpa using hK
 case body =>
  clear bD0 bO bR bS hown1 hown3 hB3 hsz3 hB1;rintro y0 pre ⟨x,hx⟩ W ⟨⟨hb1,hown,hb3,hb4⟩,hB⟩ hlt;obtain ⟨s1,s2,s3⟩:=HSafe.out pre;have hsn:=hj_ (q00e d l pre ⟨x,hx⟩);have hx9:=HW.out.at hx;simp only [Fin.getElem_fin] at hsn ⊢;clear hlt;generalize l[x]=z at *;obtain ⟨O,r,hs⟩:∃ O r,wst d l pre=(O,r):=⟨_,_,rfl⟩;rw [hs] at hsn hown hb4 s1 s2 s3;have HPs:=hj_ hs;clear hs;dsimp only at hsn hown hb4 s1 s2 s3;have hxO:x<O.length:=o_
  have hcell:=hown.cellAt x o_
  obtain ⟨o,ho⟩:=xe_ (O[x]);rw [show (uv O)[x]? = some (.int .u64 (o:Int)) from by simp [uv,hxO,ho]] at hcell
  have hfr:=hown.frozenAt x;have c1:=hb1.cell;have c3:=hb3.cell;have c4:=hb4.cell;have f4:=hb4.frozen;have HS1:=hj_ s1;clear s1 ho;have hxl:(x:Int)<(l.length:Int):=o_
  have hrB:(r:Int)*1000000000+z<18446744073709551616:=o_
  obtain ⟨v,hv⟩:∃ v:Nat,v=r*1000000000+z:=⟨_,rfl⟩;have hvi:(r:Int)*1000000000+(z:Int)=(v:Int):=o_
  rw [← hv] at hsn;have hv64:v<18446744073709551616:=o_
  clear hv;have HVI:=hj_ hvi;clear hvi
  gi_wp2
  rw [HVI.out];have hb4':=hb4.set (.int .u64 (v:Int));have hb1':=hb1.other (B':=S+1) o_ (.int .u64 (v:Int))
  have hb3':=hb3.other (B':=S+1) o_ (.int .u64 (v:Int))
  have hown':=hown.kept (grownBy_setCell' W (S+1) (.int .u64 (v:Int))) (.inr (by simp [Value.ownBlock];omega))
  have K1:KeepsOthers W (W.setCell ⟨S+1,0,none⟩ (.int .u64 (v:Int))):=KeepsOthers.setCell _ _ _;have P1:KpR w.heap.size 235 W (W.setCell ⟨S+1,0,none⟩ (.int .u64 (v:Int))):=(KpR.refl _ _ W).set hb4 d_ o_ _
  have B1:=hB.setCell (p:=⟨S+1,0,none⟩) (by simp;omega) (.int .u64 (v:Int))
  clear hb1 hb3 hb4 hown hB hcell hfr c1 c3 c4 f4;generalize W.setCell ⟨S+1,0,none⟩ (.int .u64 (v:Int))=W1 at *;have hcell:=hown'.cellAt x (oh_ HS1.out)
  obtain ⟨o,ho⟩:=xe_ (O[x]);rw [show (uv O)[x]? = some (.int .u64 (o:Int)) from by simp [uv,hxO,ho]] at hcell
  have hfr:=hown'.frozenAt x;have c1:=hb1'.cell;have c3:=hb3'.cell;have c4:=hb4'.cell;have f4:=hb4'.frozen;clear ho;have hdi:(1:Int)≤(d:Int):=o_
  have hdn:(d:Int)≠0:=o_
  obtain ⟨q,hq⟩:=ex_ (v / d);obtain ⟨t,ht⟩:=ex_ (v % d);have q1:IntKind.u64.wrap ((v:Int).tdiv (d:Int))=(q:Int):=by
   rw [Int.tdiv_eq_ediv_of_nonneg o_,← Int.natCast_ediv,← hq]
   exact IntWalk.u64_in _ ⟨Int.natCast_nonneg _,by have:=Nat.div_le_self v d;omega⟩
  have q2:IntKind.u64.wrap ((v:Int).tmod (d:Int))=(t:Int):=by
   rw [Int.tmod_eq_emod_of_nonneg o_,← Int.natCast_emod,← ht]
   exact IntWalk.u64_in _ ⟨Int.natCast_nonneg _,by have:=Nat.mod_le v d;omega⟩
  rw [← hq,← ht] at hsn;clear hq ht;have hne1:¬ w.heap.size+1=S+1:=o_
  have hne2:¬ S+1=w.heap.size+1:=o_
  clear hrB hx9 s2 s3;have hd0:¬ d=0:=o_
  have hd1:((d:Int) == 0)=false:=by simp;omega
  have q3:IntKind.u64.wrap ((v:Int) / (d:Int))=(q:Int):=by rw [← Int.tdiv_eq_ediv_of_nonneg o_];exact q1
  have q4:IntKind.u64.wrap ((v:Int) % (d:Int))=(t:Int):=by rw [← Int.tmod_eq_emod_of_nonneg o_];exact q2
  have q5:(v:Int).tmod (d:Int)=(t:Int):=by
   have h1:(v:Int).tmod (d:Int)=(v:Int) % (d:Int):=Int.tmod_eq_emod_of_nonneg o_
   rw [h1,← Int.natCast_emod];rw [h1,← Int.natCast_emod,IntWalk.u64_in _ ⟨Int.natCast_nonneg _,by have:=Nat.mod_le v d;omega⟩] at q2
   exact q2
  clear hv64;refine wpIn_region_any k_ ?_
  refine qzv
   (fun b=>match b with
    | [b0,b1,b2,b3,b4,b5,b6,b7,b8,_,_]=>{ tmps:=#[.slice A l.length c,.int .u64 (d:Int),undef,.pointer (some ⟨w.heap.size,0,none⟩),.slice none 0 0,.int .u64 0,.pointer (some ⟨S,0,none⟩),.pointer (some ⟨S+1,0,none⟩),.int .i64 (x:Int),.int .u64 (z:Int),.slice A l.length c,.int .i64 l.length,.slice (some ⟨w.heap.size+1,0,none⟩) l.length l.length,.slice A l.length c,.func (.func 320) #[] #[.pointer (some ⟨S+1+1,0,none⟩)],.int .i64 (x:Int),.int .u64 (z:Int),.int .u64 (r:Int),.int .u64 ((r:Int)*1000000000),.int .u64 (z:Int),.int .u64 (v:Int),
      bif b0 then .slice (some ⟨w.heap.size+1,0,none⟩) l.length l.length else undef,bif b1 then .int .i64 (x:Int) else undef,bif b2 then .int .u64 (v:Int) else undef,bif b3 then .int .u64 (d:Int) else undef,bif b4 then .int .u64 (q:Int) else undef,bif b5 then .int .u64 (v:Int) else undef,bif b6 then .int .u64 (d:Int) else undef,bif b7 then .int .u64 (t:Int) else undef,bif b8 then .pointer (some ⟨w.heap.size+1,x,none⟩) else undef,undef,undef,undef],defers:=[] }
    | _=>{ tmps:=#[],defers:=[] })
   (fun b=>match b with
    | [_,_,_,_,_,_,_,_,_,b9,b10]=>bif b10 then (W1.drew.setCell ⟨w.heap.size+1,x,none⟩ (.int .u64 (q:Int))).setCell ⟨S+1,0,none⟩ (.int .u64 (t:Int)) else bif b9 then W1.drew.setCell ⟨w.heap.size+1,x,none⟩ (.int .u64 (q:Int)) else W1.drew
    | _=>W1.drew)
   k_ ?step ?fin 11 [false,false,false,false,false,false,false,false,false,false,false] ⟨rfl,fun i o _ h=>by
    have hi:i<11:=(List.getElem?_eq_some_iff.1 h).1;obtain rfl | rfl | rfl | rfl | rfl | rfl | rfl | rfl | rfl | rfl | rfl:i=0∨i=1∨i=2∨i=3∨i=4∨i=5∨i=6∨i=7∨i=8∨i=9∨i=10:=o_
    all_goals (simp at h)⟩ s_
  case step =>
   intro b i hb hi K hK;obtain ⟨b0,b1,b2,b3,b4,b5,b6,b7,b8,b9,b10,rfl⟩:=list11 (show b.length=11 from hb.1)
   obtain ⟨h1,o,ho,hall⟩:=mem_ready.1 hi;have hlt:i<11:=(Array.getElem?_eq_some_iff.1 ho).1;have hclo:=hb.2;clear hb hi;obtain rfl | rfl | rfl | rfl | rfl | rfl | rfl | rfl | rfl | rfl | rfl:i=0∨i=1∨i=2∨i=3∨i=4∨i=5∨i=6∨i=7∨i=8∨i=9∨i=10:=o_
   ·obtain rfl:b0=false:=by simpa using h1
    obtain rfl:=Option.some.inj ho;obtain rfl:b10=false:=by
     cases b10
     ·rfl
     ·have:=hclo 10 _ rfl rfl ⟨0,.phase⟩ s_ rfl
      simp at this
    clear hall hclo h1 ho hlt
    cases b9 <;> (refine wpOpIn_step rfl (fun K' hK'=>?_);go_simp;exact hK' _ _ hK)
   ·obtain rfl:b1=false:=by simpa using h1
    obtain rfl:=Option.some.inj ho;obtain rfl:b10=false:=by
     cases b10
     ·rfl
     ·have:=hclo 10 _ rfl rfl ⟨1,.phase⟩ s_ rfl
      simp at this
    clear hall hclo h1 ho hlt
    cases b9 <;> (refine wpOpIn_step rfl (fun K' hK'=>?_);go_simp;exact hK' _ _ hK)
   ·obtain rfl:b2=false:=by simpa using h1
    obtain rfl:=Option.some.inj ho;obtain rfl:b10=false:=by
     cases b10
     ·rfl
     ·have:=hclo 10 _ rfl rfl ⟨2,.phase⟩ s_ rfl
      simp at this
    clear hall hclo h1 ho hlt
    cases b9 <;> (refine wpOpIn_step rfl (fun K' hK'=>?_);go_simp;exact hK' _ _ hK)
   ·obtain rfl:b3=false:=by simpa using h1
    obtain rfl:=Option.some.inj ho;obtain rfl:b10=false:=by
     cases b10
     ·rfl
     ·have:=hclo 10 _ rfl rfl ⟨3,.phase⟩ s_ rfl
      simp at this
    clear hall hclo h1 ho hlt
    cases b9 <;> (refine wpOpIn_step rfl (fun K' hK'=>?_);go_simp;exact hK' _ _ hK)
   ·obtain rfl:b4=false:=by simpa using h1
    obtain rfl:=Option.some.inj ho;obtain rfl:b2=true:=by simpa using hall ⟨2,.data⟩ s_ rfl
    obtain rfl:b3=true:=by simpa using hall ⟨3,.data⟩ s_ rfl
    obtain rfl:b10=false:=by
     cases b10
     ·rfl
     ·have:=hclo 10 _ rfl rfl ⟨4,.phase⟩ s_ rfl
      simp at this
    clear hall hclo h1 ho hlt
    cases b9 <;> (refine wpOpIn_step rfl (fun K' hK'=>?_);go_simp;exact hK' _ _ hK)
   ·obtain rfl:b5=false:=by simpa using h1
    obtain rfl:=Option.some.inj ho;obtain rfl:b10=false:=by
     cases b10
     ·rfl
     ·have:=hclo 10 _ rfl rfl ⟨5,.phase⟩ s_ rfl
      simp at this
    clear hall hclo h1 ho hlt
    cases b9 <;> (refine wpOpIn_step rfl (fun K' hK'=>?_);go_simp;exact hK' _ _ hK)
   ·obtain rfl:b6=false:=by simpa using h1
    obtain rfl:=Option.some.inj ho;obtain rfl:b10=false:=by
     cases b10
     ·rfl
     ·have:=hclo 10 _ rfl rfl ⟨6,.phase⟩ s_ rfl
      simp at this
    clear hall hclo h1 ho hlt
    cases b9 <;> (refine wpOpIn_step rfl (fun K' hK'=>?_);go_simp;exact hK' _ _ hK)
   ·obtain rfl:b7=false:=by simpa using h1
    obtain rfl:=Option.some.inj ho;obtain rfl:b5=true:=by simpa using hall ⟨5,.data⟩ s_ rfl
    obtain rfl:b6=true:=by simpa using hall ⟨6,.data⟩ s_ rfl
    obtain rfl:b10=false:=by
     cases b10
     ·rfl
     ·have:=hclo 10 _ rfl rfl ⟨7,.phase⟩ s_ rfl
      simp at this
    clear hall hclo h1 ho hlt
    cases b9 <;> (refine wpOpIn_step rfl (fun K' hK'=>?_);go_simp;exact hK' _ _ hK)
   ·obtain rfl:b8=false:=by simpa using h1
    obtain rfl:=Option.some.inj ho;obtain rfl:b0=true:=by simpa using hall ⟨0,.data⟩ s_ rfl
    obtain rfl:b1=true:=by simpa using hall ⟨1,.data⟩ s_ rfl
    obtain rfl:b10=false:=by
     cases b10
     ·rfl
     ·have:=hclo 10 _ rfl rfl ⟨8,.phase⟩ s_ rfl
      simp at this
    clear hall hclo h1 ho hlt
    cases b9 <;> (refine wpOpIn_step rfl (fun K' hK'=>?_);go_simp;exact hK' _ _ hK)
   ·obtain rfl:b9=false:=by simpa using h1
    obtain rfl:=Option.some.inj ho;obtain rfl:b8=true:=by simpa using hall ⟨8,.data⟩ s_ rfl
    obtain rfl:b4=true:=by simpa using hall ⟨4,.data⟩ s_ rfl
    obtain rfl:b10=false:=by
     cases b10
     ·rfl
     ·have:=hclo 10 _ rfl rfl ⟨9,.phase⟩ s_ rfl
      simp at this
    clear hall hclo h1 ho hlt;refine wpOpIn_step rfl (fun K' hK'=>?_);go_simp;exact hK' _ _ hK
   ·obtain rfl:b10=false:=by simpa using h1
    obtain rfl:=Option.some.inj ho;obtain rfl:b0=true:=by simpa using hall ⟨0,.phase⟩ s_ rfl
    obtain rfl:b1=true:=by simpa using hall ⟨1,.phase⟩ s_ rfl
    obtain rfl:b2=true:=by simpa using hall ⟨2,.phase⟩ s_ rfl
    obtain rfl:b3=true:=by simpa using hall ⟨3,.phase⟩ s_ rfl
    obtain rfl:b4=true:=by simpa using hall ⟨4,.phase⟩ s_ rfl
    obtain rfl:b5=true:=by simpa using hall ⟨5,.phase⟩ s_ rfl
    obtain rfl:b6=true:=by simpa using hall ⟨6,.phase⟩ s_ rfl
    obtain rfl:b7=true:=by simpa using hall ⟨7,.phase⟩ s_ rfl
    obtain rfl:b8=true:=by simpa using hall ⟨8,.phase⟩ s_ rfl
    obtain rfl:b9=true:=by simpa using hall ⟨9,.phase⟩ s_ rfl
    clear hall hclo h1 ho hlt;refine wpOpIn_step rfl (fun K' hK'=>?_);go_simp;exact hK' _ _ hK
  case fin =>
   intro b hbl hall;obtain ⟨b0,b1,b2,b3,b4,b5,b6,b7,b8,b9,b10,rfl⟩:=list11 (show b.length=11 from hbl)
   obtain rfl:b0=true:=by simpa using hall 0 s_
   obtain rfl:b1=true:=by simpa using hall 1 s_
   obtain rfl:b2=true:=by simpa using hall 2 s_
   obtain rfl:b3=true:=by simpa using hall 3 s_
   obtain rfl:b4=true:=by simpa using hall 4 s_
   obtain rfl:b5=true:=by simpa using hall 5 s_
   obtain rfl:b6=true:=by simpa using hall 6 s_
   obtain rfl:b7=true:=by simpa using hall 7 s_
   obtain rfl:b8=true:=by simpa using hall 8 s_
   obtain rfl:b9=true:=by simpa using hall 9 s_
   obtain rfl:b10=true:=by simpa using hall 10 s_
   dsimp only [cond_true];have hW:=hown'.stored x (.int .u64 (q:Int));have KK:=(K1.trans (KeepsOthers.drew W1)).trans ((KeepsOthers.setCell W1.drew ⟨w.heap.size+1,x,none⟩ (.int .u64 (q:Int))).trans (KeepsOthers.setCell _ ⟨S+1,0,none⟩ (.int .u64 (t:Int))));clear hall hbl
   gi_wp2
   obtain ⟨cur,hcur⟩:=qfr hown';have hcur':W1.drew.heap[w.heap.size+1]? = some (.cells cur 258 (0,0)):=hcur;have hb4d:Boxed (W1.drew.setCell ⟨w.heap.size+1,x,none⟩ (.int .u64 (q:Int))) (S+1) 258 (.int .u64 (v:Int)):=(Below.heap_setCell _ _ _ _ (by simp;omega)).trans hb4'
   have hb3d:Boxed (W1.drew.setCell ⟨w.heap.size+1,x,none⟩ (.int .u64 (q:Int))) S 235 (.slice (some ⟨w.heap.size+1,0,none⟩) l.length l.length):=(Below.heap_setCell _ _ _ _ (by simp;omega)).trans hb3'
   have hb1d:Boxed (W1.drew.setCell ⟨w.heap.size+1,x,none⟩ (.int .u64 (q:Int))) w.heap.size 258 (.int .u64 (d:Int)):=(Below.heap_setCell _ _ _ _ s_).trans hb1'
   have hownd:(W1.drew.setCell ⟨w.heap.size+1,x,none⟩ (.int .u64 (q:Int))).ownsRow w.heap.size 258 1 (.slice (some ⟨w.heap.size+1,0,none⟩) l.length l.length) l.length ((uv O).set x (.int .u64 (q:Int))):=hW.1;rw [uv_set] at hownd;refine ⟨KK.from _,((P1.drew.put hcur' d_ o_ _).set hb4d d_ o_ _),⟨hb1d.other o_ _,?_,hb3d.other o_ _,?_⟩,((B1.drew).setCell (p:=⟨w.heap.size+1,x,none⟩) s_ _).setCell (p:=⟨S+1,0,none⟩) (by simp;omega) _⟩
   ·rw [hsn.out]
    exact hownd.kept (grownBy_setCell' _ (S+1) _) (.inr (by simp [Value.ownBlock];omega))
   ·rw [hsn.out]
    exact hb4d.set _
 case done =>
  rintro D ys W hD rfl ⟨⟨hb1,hown,hb3,hb4⟩,hB⟩ hK;obtain ⟨s1,s2,s3⟩:=HSafe.out (dn l);obtain ⟨e1,e2⟩:=HEnd.out;rw [e2] at hb4;generalize (wst d l (dn l)).1=O at *;have c3:=hb3.cell;have c4:=hb4.cell;have HE:=hj_ e1;have HWO:=hj_ s3;have hus:=Us.of_own hown s1.symm;clear e1 e2 s1 s2 s3 bD0 bO bR bS hown1 hown3 hB3 hsz3 hB1;have hDw:w.heap.size≤D:=by simp at hD;have:=HS.out;omega
  generalize m % d=R at *;generalize m / d=Q1 at *;have hDlt:D<W.heap.size:=(Array.getElem?_eq_some_iff.1 hK).1;have hus':Us W.drew (some ⟨w.heap.size+1,0,none⟩) l.length O:=hus.below ((br_).drew);have HCut:=hj_ (q47 _ _ _ _ W.drew hus' o_ (qfs hown) (qfx hown) HWO.out)
  have hSW:S+1<W.heap.size:=hb4.lt;have HRest:Hid (∀ w2,Below W.drew.heap.size W.drew w2→w2.cell? ⟨S+1,0,none⟩=some (.int .u64 (R:Int))∧w2.heap[D]? = some (.deferred (some []))∧Below w.heap.size w w2):=fun w2 h2 =>
   ⟨(h2.cell (p:=⟨S+1,0,none⟩) hSW).trans c4,(h2.block D hDlt).trans hK,(hB.drew).trans (h2.mono hB.size)⟩
  clear hus hus' hown hb1 hb3 hb4 HEnd HSafe HW hK hDlt hSW
  gi_wp2
  refine wpIn_region_any k_ ?_
  change wpAnyIn _ _ _ _ _ _ _ _ _ (World.drew _);refine wpAnyIn_ready (rs:=[0,2]) k_ s_ ?_
  refine AllReadyIn.cons rfl (fun K hK=>?_) ?_
  ·go_simp;refine hK _ _ ?_;clear hK K
   refine wpAnyIn_ready (rs:=[1,2]) k_ s_ ?_
   refine AllReadyIn.cons rfl (fun K hK=>?_) ?_
   ·go_simp;(refine ⟨trivial,?_⟩;gi_at_call 240;refine (callsIn_wide.2 HCut.out).mono ?_;rw [HE.out];rintro e w2 ⟨v,rfl,hm,hb,_⟩;obtain ⟨c5,hK2,hb2⟩:=HRest.out w2 hb;refine hK _ _ ?_;clear hK K)
    refine wpAnyIn_ready (rs:=[2,3]) k_ s_ ?_
    refine AllReadyIn.cons rfl (fun K hK=>?_) ?_
    ·go_simp;refine hK _ _ ?_;clear hK K
     refine wpAnyIn_ready (rs:=[3]) k_ s_ ?_
     refine AllReadyIn.cons rfl (fun K hK=>?_) ?_
     ·go_simp;refine hK _ _ ?_;clear hK K
      refine wpAnyIn_ready (rs:=[4]) k_ s_ ?_
      refine AllReadyIn.cons rfl (fun K hK=>?_) ?_
      ·go_simp;refine hK _ _ ?_;clear hK K
       refine wpAnyIn_done k_ ?_ _
       gi_wp2;refine ⟨s_,.inl ⟨_,_,rfl,run_takeDeferred hK2,?_⟩⟩;refine ⟨_,results_tmp2 rfl _ _ _,?_⟩;exact ⟨v,rfl,qdr hm hK2,hb2.trans (belowK_b (w:=w) lr_ w2 D _ (.deferred none) hDw hK2 rfl rfl)⟩
      exact AllReadyIn.nil
     exact AllReadyIn.nil
    refine AllReadyIn.cons rfl (fun K hK=>?_) ?_
    ·go_simp;refine hK _ _ ?_;clear hK K
     refine wpAnyIn_ready (rs:=[2]) k_ s_ ?_
     refine AllReadyIn.cons rfl (fun K hK=>?_) ?_
     ·go_simp;refine hK _ _ ?_;clear hK K
      refine wpAnyIn_ready (rs:=[4]) k_ s_ ?_
      refine AllReadyIn.cons rfl (fun K hK=>?_) ?_
      ·go_simp;refine hK _ _ ?_;clear hK K
       refine wpAnyIn_done k_ ?_ _
       gi_wp2;refine ⟨s_,.inl ⟨_,_,rfl,run_takeDeferred hK2,?_⟩⟩;refine ⟨_,results_tmp2 rfl _ _ _,?_⟩;exact ⟨v,rfl,qdr hm hK2,hb2.trans (belowK_b (w:=w) lr_ w2 D _ (.deferred none) hDw hK2 rfl rfl)⟩
      exact AllReadyIn.nil
     exact AllReadyIn.nil
    exact AllReadyIn.nil
   refine AllReadyIn.cons rfl (fun K hK=>?_) ?_
   ·go_simp;refine hK _ _ ?_;clear hK K
    refine wpAnyIn_ready (rs:=[1]) k_ s_ ?_
    refine AllReadyIn.cons rfl (fun K hK=>?_) ?_
    ·go_simp;(refine ⟨trivial,?_⟩;gi_at_call 240;refine (callsIn_wide.2 HCut.out).mono ?_;rw [HE.out];rintro e w2 ⟨v,rfl,hm,hb,_⟩;obtain ⟨c5,hK2,hb2⟩:=HRest.out w2 hb;refine hK _ _ ?_;clear hK K)
     refine wpAnyIn_ready (rs:=[3]) k_ s_ ?_
     refine AllReadyIn.cons rfl (fun K hK=>?_) ?_
     ·go_simp;refine hK _ _ ?_;clear hK K
      refine wpAnyIn_ready (rs:=[4]) k_ s_ ?_
      refine AllReadyIn.cons rfl (fun K hK=>?_) ?_
      ·go_simp;refine hK _ _ ?_;clear hK K
       refine wpAnyIn_done k_ ?_ _
       gi_wp2;refine ⟨s_,.inl ⟨_,_,rfl,run_takeDeferred hK2,?_⟩⟩;refine ⟨_,results_tmp2 rfl _ _ _,?_⟩;exact ⟨v,rfl,qdr hm hK2,hb2.trans (belowK_b (w:=w) lr_ w2 D _ (.deferred none) hDw hK2 rfl rfl)⟩
      exact AllReadyIn.nil
     exact AllReadyIn.nil
    exact AllReadyIn.nil
   exact AllReadyIn.nil
  refine AllReadyIn.cons rfl (fun K hK=>?_) ?_
  ·go_simp;refine hK _ _ ?_;clear hK K
   refine wpAnyIn_ready (rs:=[0]) k_ s_ ?_
   refine AllReadyIn.cons rfl (fun K hK=>?_) ?_
   ·go_simp;refine hK _ _ ?_;clear hK K
    refine wpAnyIn_ready (rs:=[1]) k_ s_ ?_
    refine AllReadyIn.cons rfl (fun K hK=>?_) ?_
    ·go_simp;(refine ⟨trivial,?_⟩;gi_at_call 240;refine (callsIn_wide.2 HCut.out).mono ?_;rw [HE.out];rintro e w2 ⟨v,rfl,hm,hb,_⟩;obtain ⟨c5,hK2,hb2⟩:=HRest.out w2 hb;refine hK _ _ ?_;clear hK K)
     refine wpAnyIn_ready (rs:=[3]) k_ s_ ?_
     refine AllReadyIn.cons rfl (fun K hK=>?_) ?_
     ·go_simp;refine hK _ _ ?_;clear hK K
      refine wpAnyIn_ready (rs:=[4]) k_ s_ ?_
      refine AllReadyIn.cons rfl (fun K hK=>?_) ?_
      ·go_simp;refine hK _ _ ?_;clear hK K
       refine wpAnyIn_done k_ ?_ _
       gi_wp2;refine ⟨s_,.inl ⟨_,_,rfl,run_takeDeferred hK2,?_⟩⟩;refine ⟨_,results_tmp2 rfl _ _ _,?_⟩;exact ⟨v,rfl,qdr hm hK2,hb2.trans (belowK_b (w:=w) lr_ w2 D _ (.deferred none) hDw hK2 rfl rfl)⟩
      exact AllReadyIn.nil
     exact AllReadyIn.nil
    exact AllReadyIn.nil
   exact AllReadyIn.nil
  exact AllReadyIn.nil
 case stop =>
  rintro D c pre W _ _ h _;exact h.elim
end
end Go.Proofs.YtabhjdmmfdfpeaaGreatDoor
