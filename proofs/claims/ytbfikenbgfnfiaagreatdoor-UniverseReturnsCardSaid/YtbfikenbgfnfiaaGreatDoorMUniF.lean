/- Lemmas and contracts of functions, joined for the claim: UAPlain, URef13d, UApply1, UApply2, URef13k, UOpen2. -/
import Derived.Test.YtbfikenbgfnfiaaGreatDoorMUniD
import Derived.Test.YtbfikenbgfnfiaaGreatDoorMUniC
import Derived.Test.YtbfikenbgfnfiaaGreatDoorMUniE
import Derived.Test.YtbfikenbgfnfiaaGreatDoorMOpen
import Derived.Test.YtbfikenbgfnfiaaGreatDoorMUniA
import Derived.StillTailTactics
import Derived.Deep.RegionHeld3
import Derived.Test.YtbfikenbgfnfiaaGreatDoorMUp
namespace Go.Proofs.YtbfikenbgfnfiaaGreatDoor
set_option maxHeartbeats 32000000
open _root_.Go.Proofs.Tryz

section
open Go.RowKit
def Fm.put (f:Fm) (c:Cg):Fm:=if c.un=f.un then ⟨f.un,⟨(f.sl.data.toList.set (c.ad-1).toNat (u8v c.by_)).toArray⟩⟩ else f
theorem put_un (f:Fm) (c:Cg):(f.put c).un=f.un:=by
 unfold Fm.put
 by_cases h:c.un=f.un
 ·rw [if_pos h]
 ·rw [if_neg h]
theorem qj4 (f:Fm) (c:Cg):(f.put c).sl.size=f.sl.size:=by
 unfold Fm.put
 by_cases h:c.un=f.un
 ·rw [if_pos h]
  show ((f.sl.data.toList.set (c.ad-1).toNat (u8v c.by_)).toArray).size=f.sl.size
  rw [List.size_toArray,List.length_set,Array.length_toList]
  rfl
 ·rw [if_neg h]
def apL (a:List Fm) (L:List Cg):List Fm:=L.foldl (fun a c=>a.map (·.put c)) a
theorem q0v (a:List Fm) (L:List Cg) (c:Cg):apL a (L ++ [c])=(apL a L).map (·.put c):=by unfold apL;rw [List.foldl_append];rfl
theorem q0u (a:List Fm) (L:List Cg):apL a L=a.map fun f=>L.foldl Fm.put f:=by
 unfold apL
 induction L generalizing a with
 | nil=>simp
 | cons c L ih=>rw [List.foldl_cons,ih,List.map_map];rfl
theorem q0t (a:List Fm) (L:List Cg):(apL a L).length=a.length:=by rw [q0u,List.length_map]
theorem q9d (L:List Cg):∀ f:Fm,(L.foldl Fm.put f).un=f.un:=by
 induction L with
 | nil=>intro f;rfl
 | cons c L ih=>intro f;rw [List.foldl_cons,ih,put_un]
theorem qbi {α β:Type} (g:α→β) (p:β→Bool):∀ l:List α,idxOf p (l.map g)=idxOf (fun x=>p (g x)) l
 | []=>rfl
 | x :: l=>by rw [List.map_cons,idxOf,idxOf,qbi g p l]
theorem qba {α:Type} {p:α→Bool}:∀ {l:List α} {k:Nat} (hk:k<l.length),idxOf p l=k→p l[k]=true
 | x :: l,0,_,h=>by
  rw [idxOf] at h
  cases hx:p x with
  | true=>exact hx
  | false =>
   rw [hx] at h;simp only [Bool.false_eq_true,if_false] at h
   by_cases h2:idxOf p l<0
   ·rw [if_pos h2] at h;omega
   ·rw [if_neg h2] at h;omega
 | x :: l,k+1,hk,h=>by
  rw [idxOf] at h
  cases hx:p x with
  | true=>rw [hx] at h;simp only [if_true] at h;omega
  | false =>
   rw [hx] at h;simp only [Bool.false_eq_true,if_false] at h
   by_cases h2:idxOf p l<0
   ·rw [if_pos h2] at h;omega
   ·rw [if_neg h2] at h
    exact qba (l:=l) (k:=k) (by simpa using hk) (by omega)
theorem qhu {l:List Fm} {u:Int} {k:Nat} (hk:k<l.length) (h:plI l u=k):l[k].un=u:=of_decide_eq_true (qba (p:=fun f:Fm=>decide (f.un=u)) hk h)
theorem plI_ap (a:List Fm) (L:List Cg) (u:Int):plI (apL a L) u=plI a u:=by
 rw [q0u];unfold plI;rw [qbi];simp only [q9d]
def RgL (l:List Fm):Prop:=l.Pairwise (fun f g=>f.un<g.un)∧∀ x ∈ l,1≤x.un∧x.un≤8∧x.sl.size=512
theorem rgL_of {l:List Fm} (h:rightE l=0):RgL l:=by
 refine ⟨?_,fun x hx=>?_⟩
 ·rw [List.pairwise_iff_getElem]
  intro i j hi hj hij
  have:=qmh h hij hj
  rw [qa1 hi,qa1 hj] at this;exact this
 ·obtain ⟨i,hi,rfl⟩:=List.getElem_of_mem hx
  have:=rg_ok ((q9q h).2 i hi)
  rw [qa1 hi] at this;exact ⟨this.1,this.2.1,this.2.2.1⟩
theorem RgL.put {l:List Fm} (h:RgL l) (c:Cg):RgL (l.map (·.put c)):=by
 refine ⟨?_,fun x hx=>?_⟩
 ·rw [List.pairwise_map]
  simp only [put_un];exact h.1
 ·obtain ⟨y,hy,rfl⟩:=List.mem_map.1 hx
  rw [put_un,qj4];exact h.2 y hy
theorem RgL.ap {l:List Fm} (h:RgL l) (L:List Cg):RgL (apL l L):=by
 unfold apL
 induction L generalizing l with
 | nil=>exact h
 | cons c L ih=>rw [List.foldl_cons];exact ih (h.put c)
def upF (l:List Fm) (k:Nat):List Fm:=l.filter fun f=>decide (f.un≤(k:Int))
theorem qy5 {l:List Fm} (h:RgL l):upF l 0=[]:=by
 unfold upF;rw [List.filter_eq_nil_iff];intro x hx
 have:=h.2 x hx
 simp;omega
theorem qy2 {l:List Fm} (h:RgL l):upF l 8=l:=by
 unfold upF;rw [List.filter_eq_self];intro x hx
 have:=h.2 x hx
 exact decide_eq_true (by omega)
theorem qy4 (k:Nat):∀ {l:List Fm},l.Pairwise (fun f g=>f.un<g.un)→upF l (k+1)=upF l k ++ (if plI l ((k:Int)+1)<0 then [] else [l.getD (plI l ((k:Int)+1)).toNat fm0])
 | [],_=>by unfold upF plI idxOf;simp
 | x :: l,h=>by
  obtain ⟨hx,hl⟩:=List.pairwise_cons.1 h;have ih:=qy4 k hl;unfold upF plI at *;rw [idxOf];have c1:(((k+1:Nat)):Int)=(k:Int)+1:=by omega
  rw [c1] at ih ⊢;have hpos:∀ m:Int,x.un≤m→(x :: l).filter (fun f:Fm=>decide (f.un≤m))=x :: l.filter (fun f:Fm=>decide (f.un≤m)):=fun m h=>List.filter_cons_of_pos (p:=fun f:Fm=>decide (f.un≤m)) (decide_eq_true h)
  have hneg:∀ m:Int,¬ x.un≤m→(x :: l).filter (fun f:Fm=>decide (f.un≤m))=l.filter (fun f:Fm=>decide (f.un≤m)):=fun m h=>List.filter_cons_of_neg (p:=fun f:Fm=>decide (f.un≤m)) (by simpa using h)
  by_cases h1:x.un≤(k:Int)
  ·rw [hpos _ (by omega),hpos _ h1,ih]
   rw [decide_eq_false (show ¬ x.un=(k:Int)+1 by omega)]
   simp only [Bool.false_eq_true,if_false]
   by_cases h2:idxOf (fun f:Fm=>decide (f.un=(k:Int)+1)) l<0
   ·rw [if_pos h2,if_pos h2,if_pos (by decide)];rfl
   ·rw [if_neg h2,if_neg h2,if_neg (by omega),show (idxOf (fun f:Fm=>decide (f.un=(k:Int)+1)) l+1).toNat=(idxOf (fun f:Fm=>decide (f.un=(k:Int)+1)) l).toNat+1 by omega]
    rfl
  ·have hn:∀ m:Int,m≤(k:Int)+1→(l.filter fun f=>decide (f.un≤m))=[]:=fun m hm=>by
    rw [List.filter_eq_nil_iff];intro y hy
    have:=hx y hy
    simp;omega
   rw [hneg _ h1,hn (k:Int) (by omega)]
   by_cases h2:x.un=(k:Int)+1
   ·rw [hpos _ (by omega),hn _ (by omega),decide_eq_true h2]
    simp
   ·rw [hneg _ (by omega),hn _ (by omega),decide_eq_false h2]
    have hno:idxOf (fun f:Fm=>decide (f.un=(k:Int)+1)) l=-1:=qbc fun i hi=>by
     have:=hx l[i] (List.getElem_mem hi)
     exact decide_eq_false (by omega)
    rw [hno];simp
theorem qy3 (l:List Fm) (k:Nat) (hl:l.length≤8):(upF l k).length≤8:=Nat.le_trans (List.length_filter_le _ _) hl
def befC (x y:Cg):Bool:=decide (x.un<y.un) || (decide (x.un=y.un) && decide (x.ad<y.ad))
def cgE (a:List Fm) (L:List Cg) (i:Nat):Int :=
 if (L.getD i cg0).ad<1∨512<(L.getD i cg0).ad∨(L.getD i cg0).by_<0∨255<(L.getD i cg0).by_ then 2
 else if plI a (L.getD i cg0).un<0 then 6
 else if 0<i∧befC (L.getD (i-1) cg0) (L.getD i cg0)=false then 9 else 0
def appE (a:List Fm) (L:List Cg):Int:=if rightE a≠0 then rightE a else if 4096<L.length then 5 else firstE (cgE a L) L.length
def appV (a:List Fm) (L:List Cg):List Fm:=if appE a L≠0 then [] else apL a L
theorem q1s (s:List UInt8) (j:Nat) {v:Int} (h0:0≤v) (h1:v≤255):(byV s).set j (.int .u8 v)=byV (s.set j (u8v v)):=by
 unfold byV;rw [List.map_set,qtj h0 h1]
theorem RdI.store {S:Nat} {w:World} {M:Nat} {R:List (Int × Nat × Nat)} {l:List Fm} (h:RdI S w M R l) (hg:RgL l) (c:Cg) (k:Nat) (hk:k<l.length) (hkR:k<R.length) (hku:l[k].un=c.un) (h1:1≤c.ad) (h2:c.ad≤512) (h3:0≤c.by_) (h4:c.by_≤255) :
  RdI S (w.setCell ⟨R[k].2.1,(c.ad-1).toNat,none⟩ (.int .u8 c.by_)) M R (l.map (·.put c)):=by
 obtain ⟨a1,a2,a3,a4,a5⟩:=h;refine ⟨a1.far _ _ (a4 k hkR hk).2.2.1,a2,by rw [List.length_map];exact a3,fun i hi hi'=>?_,a5⟩
 rw [List.length_map] at hi';obtain ⟨b1,b2,b3,b4⟩:=a4 i hi hi';rw [List.getElem_map,put_un];refine ⟨b1,b2,b3,?_⟩;have hlt:=List.pairwise_iff_getElem.1 hg.1
 by_cases hik:i=k
 ·subst hik
  have hsz:=(hg.2 _ (List.getElem_mem hi')).2.2;unfold Fm.put;rw [if_pos hku.symm];show Cells _ _ (byV (l[i].sl.data.toList.set (c.ad-1).toNat (u8v c.by_)).toArray.toList)
  rw [← q1s _ _ h3 h4];exact b4.set _ _ (by unfold byV;rw [List.length_map,Array.length_toList];show _<l[i].sl.size;omega)
 ·have hne:¬ c.un=l[i].un:=by
   rw [← hku]
   rcases Nat.lt_or_gt_of_ne hik with hl | hl
   ·have:=hlt i k hi' hk hl;omega
   ·have:=hlt k i hk hi' hl;omega
  unfold Fm.put;rw [if_neg hne];exact b4.far _ _ (fun e=>hik (a5 i k hi hkR e.symm))
end

section
open Go.RowKit
end

section
open Go.RowKit
theorem qle {S:Nat} {w:World} {M:Nat} {R:List (Int × Nat × Nat)} {l:List Fm} (h:RdI S w M R l) (hg:RgL l) {k:Nat} (hk:k<l.length) (hkR:k<R.length) :
  (convert 120 9 (.slice (some ⟨R[k].2.1,0,none⟩) 512 R[k].2.2)).run prog w=.ok (.string l[k].sl) w:=by
 have hc:=(h.2.2.2.1 k hkR hk).2.2.2;have hs:l[k].sl.data.toList.length=512:=by
  have:=(hg.2 _ (List.getElem_mem hk)).2.2
  rw [Array.length_toList];exact this
 have h:=run_convert_bytes_back (P:=prog) w 120 9 5 ⟨R[k].2.1,0,none⟩ R[k].2.2 l[k].sl.data.toList underlying120 underlying5 underlying9 (fun j hj=>by
  have hu:(byV l[k].sl.data.toList)[j]? = some (.int .u8 (l[k].sl.data.toList[j].toNat:Int)):=by
   unfold byV;rw [List.getElem?_map,List.getElem?_eq_getElem hj]
   rfl
  have hcc:=hc.at_ hu
  rw [show ((⟨R[k].2.1,0,none⟩:Addr).add j)=⟨R[k].2.1,j,none⟩ by unfold Addr.add;split <;> simp_all,hcc])
 rw [hs] at h
 simpa using h
set_option maxRecDepth 100000 in
theorem qtz (S M:Nat) (R:List (Int × Nat × Nat)) (l:List Fm) (w:World) (h:RdI S w M R l) (hg:RgL l) (hl8:l.length≤8) :
  Calls prog 64 #[.map (some M)] w fun e w'=>∃ r,e=.returned r∧shFm.Out 66 l w r w':=by
 have HI:=Lib.hid h;have HG:=Lib.hid hg;have HLV:=Lib.hid (fun u=>show lookV true (rdL R) u (.slice none 0 0)=.tuple #[(match (if plI l u<0 then none else (R[(plI l u).toNat]?).map fun p=>Value.slice (some ⟨p.2.1,0,none⟩) 512 p.2.2) with | some v=>v | none=>.slice none 0 0),.bool (if plI l u<0 then none else (R[(plI l u).toNat]?).map fun p=>Value.slice (some ⟨p.2.1,0,none⟩) 512 p.2.2).isSome] by
  unfold lookV;rw [if_pos rfl,qdf h]
  by_cases hn:plI l u<0
  ·rw [if_pos hn];rfl
  ·rw [if_neg hn]
   cases R[(plI l u).toNat]? <;> rfl)
 have hB:=Below.refl w.heap.size w;have HB:=Lib.hid hB;have HS8:=Lib.hid (fun k=>qy3 l k hl8)
 have HAll:=Lib.hid (qy2 hg);have HZ:=Lib.hid (qy5 hg);clear h hg hl8
 go_enter func64,ntmps64
 go_wp2_with fail
 go_loopw [3,4] (fun vo iv wr=>∃ k:Nat,k≤8∧iv=.int .i64 ((k:Int)+1)∧wr.ownsRow w.heap.size 66 2 vo (upF l k).length (shFm.vs (upF l k))∧Below w.heap.size w wr) (fun _ iv _=>9-(intOf iv).toNat)
 case atStart=>exact ⟨0,Nat.zero_le _,rfl,by rw [HZ.out];exact World.ownsRow_nil _ _ _ _,HB.out⟩
 case round =>
  obtain ⟨k,hk,rfl,hown,hb⟩:=hrel;have hsz:=hb.size;have Hb:=Lib.hid hb;have hlen:=HS8.out k;have HM:=Lib.hid (HI.out.1.below hb)
  by_cases hlt:k<8
  case pos =>
   have hk1:(k:Int)+1≤8:=by omega
   have w1:IntKind.i64.wrap ((k:Int)+1+1)=(k:Int)+1+1:=IntWalk.i64_in _ (by omega)
   have hst:upF l (k+1)=upF l k ++ (if plI l ((k:Int)+1)<0 then [] else [l.getD (plI l ((k:Int)+1)).toNat fm0]):=qy4 k HG.out.1
   have hlv:=HLV.out ((k:Int)+1);have hge:-1≤plI l ((k:Int)+1):=qb9 l;have hli:plI l ((k:Int)+1)<l.length:=qbb l;obtain ⟨Ao,co,rfl⟩:=qfu hown
   by_cases hn:plI l ((k:Int)+1)<0
   ·rw [if_pos hn] at hst
    rw [List.append_nil] at hst;have HLk:=Lib.hid (show lookV true (rdL R) ((k:Int)+1) (.slice none 0 0)=.tuple #[.slice none 0 0,.bool false] by rw [hlv,if_pos hn];rfl)
    have HSt:=Lib.hid hst;have HOw:=Lib.hid hown;clear hlv hst hown hlen hn hge hli;go_wp2_with (at_lookup;refine q002 _ rfl _ _ _ _ rfl _ _ underlying119 iK (KeyTy.int underlying3) M (rdL R) ((k:Int)+1) rfl rfl HM.out (.slice none 0 0) (by simp) ?_;rw [HLk.out])
    go_roundw
    case rel=>exact ⟨k+1,by omega,by go_num,by rw [HSt.out];exact HOw.out,Hb.out⟩
    case measure=>simp [intOf];omega
   ·rw [if_neg hn] at hst
    obtain ⟨p,hp⟩:∃ p:Nat,plI l ((k:Int)+1)=p:=⟨(plI l ((k:Int)+1)).toNat,by omega⟩
    have hpl:p<l.length:=by omega
    have hpR:p<R.length:=by rw [HI.out.2.2.1];exact hpl
    have hun:l[p].un=(k:Int)+1:=qhu hpl hp;rw [hp,show ((p:Int)).toNat=p by omega,qa1 hpl] at hst
    have HLk:=Lib.hid (show lookV true (rdL R) ((k:Int)+1) (.slice none 0 0)=.tuple #[.slice (some ⟨R[p].2.1,0,none⟩) 512 R[p].2.2,.bool true] by rw [hlv,if_neg hn,hp,show ((p:Int)).toNat=p by omega,List.getElem?_eq_getElem hpR];rfl)
    have hcv:=qle (HI.out.below hb) HG.out hpl hpR;have hvs:shFm.vs (upF l (k+1))=shFm.vs (upF l k) ++ [.int .i64 ((k:Int)+1),.string l[p].sl]:=by rw [hst,Sh.vs_append,Sh.vs_one1,← hun];rfl
    have hln:(upF l (k+1)).length=(upF l k).length+1:=by rw [hst,List.length_append];rfl
    have HSt:=Lib.hid (And.intro hln hvs);generalize l[p].sl=str at *;generalize R[p].2.1=B at *;generalize R[p].2.2=cap at *;clear hlv hst hln hvs hn hge hli hp hpl hpR hun;go_wp2_with (first | (at_lookup;refine q002 _ rfl _ _ _ _ rfl _ _ underlying119 iK (KeyTy.int underlying3) M (rdL R) ((k:Int)+1) rfl rfl HM.out (.slice none 0 0) (by simp) ?_;rw [HLk.out]) | (at_builtin;refine q003 rfl _ _ _ rfl w.heap.size _ _ 2 24 underlying33 infoFm rfl (by omega) _ (upF l k).length (shFm.vs (upF l k)) rfl hown [.int .i64 ((k:Int)+1),.string str] _ _ _ rfl (by first | rfl | simp) rfl (fm_one _ _) (by unfold maxLen;omega) (by omega) (by first | omega | (simp;omega) | simp) ?_;intro g cap w1 hown1 hg1))
    go_roundw
    case rel=>exact ⟨k+1,by omega,by go_num,by rw [HSt.out.1,HSt.out.2];exact hown1,q1a Hb.out (Nat.le_refl _) hown hg1⟩
    case measure=>simp [intOf];omega
  case neg =>
   obtain rfl:k=8:=by omega
   rw [HAll.out] at hown;obtain ⟨Ao,co,rfl⟩:=qfu hown;have HOw:=Lib.hid hown;clear hown hlen;go_wp2_with fail;go_ret;exact ⟨_,rfl,Ao,co,rfl,HOw.out,Hb.out⟩
theorem qtr (x y:Cg) (w:World) :
  Calls prog 71 #[.agg #[.int .i64 x.un,.int .i64 x.ad,.int .i64 x.by_],.agg #[.int .i64 y.un,.int .i64 y.ad,.int .i64 y.by_]] w fun e w'=>e=.returned (.bool (befC x y))∧Below w.heap.size w w':=by
 obtain ⟨xu,xa,xb⟩:=x;obtain ⟨yu,ya,yb⟩:=y;have hq:befC ⟨xu,xa,xb⟩ ⟨yu,ya,yb⟩=(decide (xu<yu) || (decide (xu=yu) && decide (xa<ya))):=rfl
 have he:(xu == yu)=decide (xu=yu):=by rw [Bool.eq_iff_iff];simp
 obtain ⟨W,hW⟩:∃ W,W=((w.alloc (.cells #[.int .i64 xu,.int .i64 xa,.int .i64 xb] 52)).alloc (.cells #[.int .i64 yu,.int .i64 ya,.int .i64 yb] 52)):=⟨_,rfl⟩;obtain ⟨hB0,hK0⟩:=box2 #[.int .i64 xu,.int .i64 xa,.int .i64 xb] 52 #[.int .i64 yu,.int .i64 ya,.int .i64 yb] 52 w W hW;have hK:∀ w',Below W.heap.size W w'→w'.cell? ⟨w.heap.size,0,none⟩=some (.int .i64 xu)∧w'.cell? ⟨w.heap.size,1,none⟩=some (.int .i64 xa)∧w'.cell? ⟨w.heap.size,2,none⟩=some (.int .i64 xb)∧w'.cell? ⟨w.heap.size+1,0,none⟩=some (.int .i64 yu)∧w'.cell? ⟨w.heap.size+1,1,none⟩=some (.int .i64 ya)∧w'.cell? ⟨w.heap.size+1,2,none⟩=some (.int .i64 yb):=fun w' h=>⟨(hK0 w' h).1 0 _ rfl,(hK0 w' h).1 1 _ rfl,(hK0 w' h).1 2 _ rfl,(hK0 w' h).2 0 _ rfl,(hK0 w' h).2 1 _ rfl,(hK0 w' h).2 2 _ rfl⟩
 have HK:=Lib.hid hK;have HW:=Lib.hid hW;have HB0:=Lib.hid hB0;have hB:=Below.refl W.heap.size W;obtain ⟨c0,c1,c2,c3,c4,c5⟩:=hK W hB;clear hW hB0 hK hK0
 by_cases h1:xu<yu
 ·rw [decide_eq_true h1,Bool.true_or] at hq
  generalize befC _ _=q at *;subst hq
  go_enter func71,ntmps71
  go_wp2_with fail;rw [← HW.out];go_wp2_with fail;go_ret;exact ⟨rfl,HB0.out⟩
 by_cases h2:xu=yu
 ·have e1:(xu == yu)=true:=by simpa using h2
  rw [decide_eq_false h1,decide_eq_true h2,Bool.true_and,Bool.false_or] at hq;rw [hq];clear hq he h2
  go_enter func71,ntmps71
  go_wp2_with fail;rw [← HW.out];go_wp2_with fail;go_ret;exact ⟨rfl,HB0.out⟩
 ·have e1:(xu == yu)=false:=by simpa using h2
  rw [decide_eq_false h1,decide_eq_false h2,Bool.false_and,Bool.false_or] at hq;rw [hq];clear hq he h2
  go_enter func71,ntmps71
  go_wp2_with fail;rw [← HW.out];go_wp2_with fail;go_ret;exact ⟨rfl,HB0.out⟩
end

section
open Go.RowKit
set_option maxRecDepth 100000 in
theorem qtk (A:Option Addr) (n c:Nat) (A':Option Addr) (n' c':Nat) (a:List Fm) (L:List Cg) (w:World) (ha:shFm.In w A n a) (hl:shCg.In w A' n' L) (hn:n≤9223372036854775806) (hn':n'≤9223372036854775806) (hsa:∀ x ∈ a,x.sl.size≤9223372036854775807) :
  Calls prog 25 #[.slice A n c,.slice A' n' c'] w fun e w'=>∃ r,e=.returned (.tuple #[r,.int .i64 (appE a L)])∧shFm.Out 66 (appV a L) w r w':=by
 obtain ⟨rfl,_⟩:=id hl;have hB:=Below.refl w.heap.size w;have hE:appE a L=if rightE a≠0 then rightE a else if 4096<L.length then 5 else firstE (cgE a L) L.length:=rfl
 have hV:appV a L=if appE a L≠0 then [] else apL a L:=rfl
 have HRa:=Lib.hid (fun w h=>qyl A n c a w h hn hsa)
 have HRd:=Lib.hid (fun w h1 h2=>qyk A n c a w h1 h2)
 have HBf:=Lib.hid (fun x y w=>qtr x y w)
 have HFr:=Lib.hid (fun S M R l w h1 h2 h3=>qtz S M R l w h1 h2 h3)
 have HA:=Lib.hid ha;have HL:=Lib.hid hl;have HN:=Lib.hid hn';generalize appE a L=E at *;generalize appV a L=V at *;have HEE:=Lib.hid hE;have HVV:=Lib.hid hV;clear ha hl hE hV hsa hn hn'
 by_cases hra:rightE a=0
 case neg =>
  have hE:=HEE.out;rw [if_pos hra] at hE;have hV0:V=[]:=by rw [HVV.out,if_pos (by rw [hE];exact hra)]
  generalize rightE a=q at *;subst hE hV0;have g1:(E == 0)=false:=by simpa using hra
  have g2:(E != 0)=true:=by simpa using hra
  go_enter func25,ntmps25
  go_wp2_with fail;refine uq_ (HRa.out _ (HA.out.below hB)) hB ?_;clear hB;intro wk hB;go_wp2_with fail;go_ret2;exact ⟨_,rfl,Sh.Out.nil hB⟩
 have hE:=HEE.out;rw [if_neg (fun h=>h hra)] at hE
 rw [hra] at HRa
 by_cases h4:4096<L.length
 ·rw [if_pos h4] at hE
  have hV0:V=[]:=by rw [HVV.out,if_pos (by rw [hE];decide)]
  subst hE hV0;have g1:(4096:Int)<(L.length:Int):=by omega
  clear hra
  go_enter func25,ntmps25
  go_wp2_with fail;refine uq_ (HRa.out _ (HA.out.below hB)) hB ?_;clear hB;intro wk hB;go_wp2_with fail;go_ret2;exact ⟨_,rfl,Sh.Out.nil hB⟩
 rw [if_neg h4] at hE;have g1:¬ (4096:Int)<(L.length:Int):=by omega
 replace HEE:=Lib.hid hE;have HRg:=Lib.hid (rgL_of hra);have HR0:=Lib.hid hra;have H8:=Lib.hid (q9q hra).1;clear hra hE
 go_enter func25,ntmps25
 go_wp2_with fail;refine uq_ (HRa.out _ (HA.out.below hB)) hB ?_;clear hB;intro wk hB;go_wp2_with fail;refine (HRd.out _ (HA.out.below hB) HR0.out).mono ?_;rintro e w5 ⟨M,R,rfl,hI,hb⟩;obtain ⟨S,hS⟩:∃ S,S=wk.heap.size:=⟨_,rfl⟩;rw [← hS] at hI;have HSw:=Lib.hid (show w.heap.size≤S by rw [hS];exact hB.size)
 have HI0:=Lib.hid hI;replace hB:=hB.trans (hb.mono hB.size);have HB0:=Lib.hid hB;clear hb hI hS hB;go_wp2_with fail
 go_loopw [24] (fun iv wr=>∃ k:Nat,k≤L.length∧iv=.int .i64 k∧(∀ j,j<k→cgE a L j=0)∧RdI S wr M R (apL a (L.take k))∧Below w.heap.size w wr) (fun iv _=>L.length-(intOf iv).toNat)
 case atStart=>exact ⟨0,Nat.zero_le _,rfl,fun j h=>absurd h (Nat.not_lt_zero _),HI0.out,HB0.out⟩
 case round =>
  obtain ⟨k,hk,rfl,hall,hI,hB⟩:=hrel;have HAll:=Lib.hid hall;have HI:=Lib.hid hI;clear hall hI
  by_cases hlt:k<L.length
  case neg =>
   obtain rfl:k=L.length:=by omega
   have hE:=HEE.out;rw [q86 HAll.out] at hE;have hV0:V=apL a L:=by rw [HVV.out,if_neg (fun h=>h hE)]
   have HV0:=Lib.hid hV0;rw [List.take_length] at HI;subst hE;clear hV0;go_wp2_with fail;refine (HFr.out S M R (apL a L) _ HI.out (HRg.out.ap L) (by rw [q0t];exact H8.out)).mono ?_
   rintro e w6 ⟨r,rfl,A5,c5,rfl,ho,hb⟩;have HOut:=Lib.hid (Sh.Out.up (⟨A5,c5,rfl,ho,hb⟩:shFm.Out 66 (apL a L) _ _ w6) hB);clear ho hb;go_wp2_with fail;go_ret2;exact ⟨_,rfl,by rw [HV0.out];exact HOut.out⟩
  case pos =>
   obtain ⟨b,o,rfl,hbl,hcell⟩:=cg_at HL.out (by omega)
   have HC:=Lib.hid (fun (w':World) (h:Below w.heap.size w w') j (hj:j<L.length)=>show w'.cell? ⟨b,o+j*3,none⟩=some (.int .i64 L[j].un)∧w'.cell? ⟨b,o+j*3+1,none⟩=some (.int .i64 L[j].ad)∧w'.cell? ⟨b,o+j*3+2,none⟩=some (.int .i64 L[j].by_) from ⟨(h.cell (p:=⟨b,o+j*3,none⟩) hbl).trans (hcell j hj).1,(h.cell (p:=⟨b,o+j*3+1,none⟩) hbl).trans (hcell j hj).2.1,(h.cell (p:=⟨b,o+j*3+2,none⟩) hbl).trans (hcell j hj).2.2⟩)
   have HBl:=Lib.hid (fun (w':World) (h:Below w.heap.size w w')=>Nat.lt_of_lt_of_le hbl h.size)
   obtain ⟨p0,p1,p2⟩:=HC.out _ hB k hlt;have hbw:=HBl.out _ hB;have i0:(0:Int)≤(k:Int):=by omega
   have i1:(k:Int)<(L.length:Int):=by omega
   have w0:IntKind.i64.wrap ((k:Int)+1)=(k:Int)+1:=IntWalk.i64_in _ (by have:=HN.out;omega)
   have hSome:=Lib.hid (fun (h:cgE a L k≠0)=>HEE.out.trans (q87 HAll.out h hlt))
   have hZero:=Lib.hid (fun (h:cgE a L k=0)=>q88 HAll.out h)
   have hEr:=Lib.hid (fun (h:E≠0)=>show V=[] by rw [HVV.out,if_pos h])
   have hAE:cgE a L k=if L[k].ad<1∨512<L[k].ad∨L[k].by_<0∨255<L[k].by_ then 2 else if plI a L[k].un<0 then 6 else if 0<k∧befC (L.getD (k-1) cg0) L[k]=false then 9 else 0:=by
    unfold cgE;rw [qa1 hlt]
   have hlk:=qdf HI.out L[k].un;rw [plI_ap] at hlk;have hge:-1≤plI a L[k].un:=qb9 a;have hpl:plI a L[k].un<a.length:=qbb a;have HHit:=Lib.hid (fun (p:Nat) (hp:p<a.length) (h:plI a L[k].un=p)=>qhu hp h)
   have HTk:=Lib.hid (show apL a (L.take (k+1))=(apL a (L.take k)).map (·.put L[k]) by rw [List.take_succ_eq_append_getElem hlt,q0v])
   have HPv:=Lib.hid (fun (j:Nat) (hj:k=j+1) (w':World) (h:Below w.heap.size w w')=>HC.out w' h j (by omega))
   have HBp:=Lib.hid (fun (y:Cg) w=>HBf.out y L[k] w)
   clear hcell;have HRl:=Lib.hid (show R.length=a.length by rw [HI.out.2.2.1,q0t])
   generalize L[k]=x at *;obtain ⟨xu,xa,xb⟩:=x;dsimp only at p0 p1 p2 hAE hlk hge hpl HHit HBp;obtain ⟨W1,hW1⟩:∃ W1,W1=wr.alloc (.cells #[.int .i64 xu,.int .i64 xa,.int .i64 xb] 52):=⟨_,rfl⟩;have hb1:Below wr.heap.size wr W1:=by rw [hW1];exact (Below.refl _ _).alloc (Nat.le_refl _) _
   have HX1:=Lib.hid (show Cells W1 wr.heap.size [.int .i64 xu,.int .i64 xa,.int .i64 xb] by rw [hW1];exact Cells.fresh wr [.int .i64 xu,.int .i64 xa,.int .i64 xb] _)
   have HB1:=Lib.hid (hB.trans (hb1.mono hB.size));have HI1:=Lib.hid (HI.out.below hb1);have HW1:=Lib.hid hW1;have HMb:=Lib.hid (fun (w':World) (h:Below wr.heap.size wr w')=>(HI.out.below h).1)
   obtain ⟨sv,okb,hlv⟩:∃ sv okb,lookV true (rdL R) xu (.slice none 0 0)=.tuple #[sv,.bool okb]:=⟨_,_,rfl⟩;have HLV:=Lib.hid hlv;have HNo:=Lib.hid (show plI a xu<0→okb=false from fun h=>by
    unfold lookV at hlv;rw [if_pos rfl,hlk,if_pos h] at hlv
    injection hlv with hlv
    have:=congrArg (fun q:Array Value=>q[1]?) hlv
    simpa using this.symm)
   have HYe:=Lib.hid (fun (p:Nat) (hp:p<R.length) (h:plI a xu=p)=>show okb=true∧sv=.slice (some ⟨R[p].2.1,0,none⟩) 512 R[p].2.2 by
    unfold lookV at hlv;rw [if_pos rfl,hlk,if_neg (show ¬ plI a xu<0 by omega),h,show ((p:Int)).toNat=p by omega,List.getElem?_eq_getElem hp] at hlv
    injection hlv with hlv
    have h0:=congrArg (fun q:Array Value=>q[0]?) hlv
    have h1:=congrArg (fun q:Array Value=>q[1]?) hlv
    exact ⟨by simpa using h1.symm,by simpa using h0.symm⟩)
   clear hW1 hb1 hlv hlk
   by_cases e1:xa<1
   ·rw [if_pos (.inl e1)] at hAE
    have hE:=hSome.out (by rw [hAE];decide)
    rw [hAE] at hE;have hV0:=hEr.out (by rw [hE];decide)
    subst hE hV0;go_wp2_with (at_lookup;refine q002 _ rfl _ _ _ _ rfl _ _ underlying119 iK (KeyTy.int underlying3) M (rdL R) xu rfl rfl (HMb.out _ (by (repeat' first | exact Below.refl _ _ | assumption | apply Below.drew | apply q18 | refine Below.alloc ?_ ?_ _ | refine Below.setCell ?_ ?_ _ | refine Below.trans ?_ (Below.mono ‹_› ?_) | omega | (simp;omega) | simp))) (.slice none 0 0) (by simp) ?_;rw [HLV.out])
    go_ret2;exact ⟨_,rfl,Sh.Out.nil (hB.alloc hB.size _)⟩
   by_cases e2:512<xa
   ·rw [if_pos (.inr (.inl e2))] at hAE
    have hE:=hSome.out (by rw [hAE];decide)
    rw [hAE] at hE;have hV0:=hEr.out (by rw [hE];decide)
    subst hE hV0;go_wp2_with (at_lookup;refine q002 _ rfl _ _ _ _ rfl _ _ underlying119 iK (KeyTy.int underlying3) M (rdL R) xu rfl rfl (HMb.out _ (by (repeat' first | exact Below.refl _ _ | assumption | apply Below.drew | apply q18 | refine Below.alloc ?_ ?_ _ | refine Below.setCell ?_ ?_ _ | refine Below.trans ?_ (Below.mono ‹_› ?_) | omega | (simp;omega) | simp))) (.slice none 0 0) (by simp) ?_;rw [HLV.out])
    go_ret2;exact ⟨_,rfl,Sh.Out.nil (hB.alloc hB.size _)⟩
   by_cases e3:xb<0
   ·rw [if_pos (.inr (.inr (.inl e3)))] at hAE
    have hE:=hSome.out (by rw [hAE];decide)
    rw [hAE] at hE;have hV0:=hEr.out (by rw [hE];decide)
    subst hE hV0;go_wp2_with (at_lookup;refine q002 _ rfl _ _ _ _ rfl _ _ underlying119 iK (KeyTy.int underlying3) M (rdL R) xu rfl rfl (HMb.out _ (by (repeat' first | exact Below.refl _ _ | assumption | apply Below.drew | apply q18 | refine Below.alloc ?_ ?_ _ | refine Below.setCell ?_ ?_ _ | refine Below.trans ?_ (Below.mono ‹_› ?_) | omega | (simp;omega) | simp))) (.slice none 0 0) (by simp) ?_;rw [HLV.out])
    go_ret2;exact ⟨_,rfl,Sh.Out.nil (hB.alloc hB.size _)⟩
   by_cases e4:255<xb
   ·rw [if_pos (.inr (.inr (.inr e4)))] at hAE
    have hE:=hSome.out (by rw [hAE];decide)
    rw [hAE] at hE;have hV0:=hEr.out (by rw [hE];decide)
    subst hE hV0;go_wp2_with (at_lookup;refine q002 _ rfl _ _ _ _ rfl _ _ underlying119 iK (KeyTy.int underlying3) M (rdL R) xu rfl rfl (HMb.out _ (by (repeat' first | exact Below.refl _ _ | assumption | apply Below.drew | apply q18 | refine Below.alloc ?_ ?_ _ | refine Below.setCell ?_ ?_ _ | refine Below.trans ?_ (Below.mono ‹_› ?_) | omega | (simp;omega) | simp))) (.slice none 0 0) (by simp) ?_;rw [HLV.out])
    go_ret2;exact ⟨_,rfl,Sh.Out.nil (hB.alloc hB.size _)⟩
   rw [if_neg (by omega)] at hAE
   by_cases e5:plI a xu<0
   ·rw [if_pos e5] at hAE
    have hE:=hSome.out (by rw [hAE];decide)
    rw [hAE] at hE;have hV0:=hEr.out (by rw [hE];decide)
    subst hE hV0;obtain rfl:=HNo.out e5;clear e5 HNo HYe hge hpl HHit;go_wp2_with (at_lookup;refine q002 _ rfl _ _ _ _ rfl _ _ underlying119 iK (KeyTy.int underlying3) M (rdL R) xu rfl rfl (HMb.out _ (by (repeat' first | exact Below.refl _ _ | assumption | apply Below.drew | apply q18 | refine Below.alloc ?_ ?_ _ | refine Below.setCell ?_ ?_ _ | refine Below.trans ?_ (Below.mono ‹_› ?_) | omega | (simp;omega) | simp))) (.slice none 0 0) (by simp) ?_;rw [HLV.out])
    go_ret2;exact ⟨_,rfl,Sh.Out.nil (hB.alloc hB.size _)⟩
   rw [if_neg e5] at hAE;obtain ⟨p,hp⟩:∃ p:Nat,plI a xu=p:=⟨(plI a xu).toNat,by omega⟩
   have hpR:p<R.length:=by rw [HRl.out];omega
   obtain ⟨rfl,rfl⟩:=HYe.out p hpR hp;have hpA:p<(apL a (L.take k)).length:=by rw [q0t];omega
   have HPu:=Lib.hid (show (apL a (L.take k))[p].un=xu from qhu hpA (by rw [plI_ap];exact hp))
   obtain ⟨j,hj⟩:∃ j:Nat,(j:Int)=xa-1:=⟨(xa-1).toNat,by omega⟩
   have hj512:j<512:=by omega
   have HPg:=Lib.hid (fun (w':World) (h:RdI S w' M R (apL a (L.take k)))=>show (∃ old,w'.cell? ⟨R[p].2.1,j,none⟩=some (.int .u8 old))∧w'.frozen? ⟨R[p].2.1,j,none⟩=false∧S≤R[p].2.1 from by
    obtain ⟨-,-,-,h4,-⟩:=h;obtain ⟨-,b2,-,b4⟩:=h4 p hpR hpA;have hsz:=((HRg.out.ap (L.take k)).2 _ (List.getElem_mem hpA)).2.2;have hjl:j<(apL a (L.take k))[p].sl.data.toList.length:=by rw [Array.length_toList];show j<(apL a (L.take k))[p].sl.size;omega
    have hu:(byV (apL a (L.take k))[p].sl.data.toList)[j]? = some (.int .u8 ((apL a (L.take k))[p].sl.data.toList[j].toNat:Int)):=by
     unfold byV;rw [List.getElem?_map,List.getElem?_eq_getElem hjl]
     rfl
    exact ⟨⟨_,b4.at_ hu⟩,b4.fr hu,b2⟩)
   have HSt:=Lib.hid (fun (w':World) (h:RdI S w' M R (apL a (L.take k)))=>show RdI S (w'.setCell ⟨R[p].2.1,j,none⟩ (.int .u8 xb)) M R (apL a (L.take (k+1))) from by
    have h2:=h.store (HRg.out.ap (L.take k)) ⟨xu,xa,xb⟩ p hpA hpR HPu.out (by show 1≤xa;omega) (by show xa≤512;omega) (by show 0≤xb;omega) (by show xb≤255;omega)
    rw [HTk.out];have e:((⟨xu,xa,xb⟩:Cg).ad-1).toNat=j:=by show (xa-1).toNat=j;omega
    rw [e] at h2;exact h2)
   have m1:IntKind.i64.wrap (xa-1)=(j:Int):=by rw [← hj];exact IntWalk.i64_in _ (by omega)
   have m2:IntKind.u8.wrap xb=xb:=IntWalk.u8_in _ (by omega)
   have j0:(0:Int)≤(j:Int):=by omega
   have j1:(j:Int)<512:=by omega
   clear hp hge hpl HHit HYe HNo HPu e5 hj;generalize hBq:R[p].2.1=Bq at *;generalize R[p].2.2=cap at *;clear hBq
   by_cases hk0:k=0
   ·subst hk0
    have HN2:=Lib.hid (hZero.out (by rw [hAE,if_neg (fun h=>absurd h.1 (by omega))]))
    simp only [Nat.zero_mul,Nat.add_zero] at p0 p1 p2;go_wp2_with (at_lookup;refine q002 _ rfl _ _ _ _ rfl _ _ underlying119 iK (KeyTy.int underlying3) M (rdL R) xu rfl rfl (HMb.out _ (by (repeat' first | exact Below.refl _ _ | assumption | apply Below.drew | apply q18 | refine Below.alloc ?_ ?_ _ | refine Below.setCell ?_ ?_ _ | refine Below.trans ?_ (Below.mono ‹_› ?_) | omega | (simp;omega) | simp))) (.slice none 0 0) (by simp) ?_;rw [HLV.out])
    rw [← HW1.out];have d0:=HX1.out.at_ (j:=0) rfl
    have d1:=HX1.out.at_ (j:=1) rfl
    have d2:=HX1.out.at_ (j:=2) rfl
    go_quiet (fail);have hBx:=q18 HB1.out nq;have hIx:=HI1.out.below (q18 (Below.refl W1.heap.size W1) nq);have hXx:=HX1.out.below (q18 (Below.refl W1.heap.size W1) nq) HX1.out.1;generalize W1.drewN nq=w6 at *;have f0:=hXx.at_ (j:=0) rfl
    have f1:=hXx.at_ (j:=1) rfl
    have f2:=hXx.at_ (j:=2) rfl
    obtain ⟨⟨old,z0⟩,z1,z2⟩:=HPg.out _ hIx;have HIx:=Lib.hid (HSt.out _ hIx);have HBx:=Lib.hid (show Below w.heap.size w (w6.setCell ⟨Bq,j,none⟩ (.int .u8 xb)) from hBx.setCell (by have:=HSw.out;show w.heap.size≤Bq;omega) _)
    clear hIx hXx hBx d0 d1 d2;go_wp2_with fail
    go_roundw
    case rel=>exact ⟨1,by omega,by go_num,HN2.out,HIx.out,HBx.out⟩
    case measure=>simp [intOf];omega
   ·obtain ⟨q,rfl⟩:∃ q,k=q+1:=⟨k-1,by omega⟩
    have hqL:q<L.length:=by omega
    rw [Nat.add_sub_cancel,qa1 hqL] at hAE;have HCq:=Lib.hid (fun (w':World) (h:Below w.heap.size w w')=>HPv.out q rfl w' h)
    have HBq:=Lib.hid (HBp.out L[q]);generalize L[q]=y at *;obtain ⟨yu,ya,yb⟩:=y;dsimp only at HCq HBq;generalize befC ⟨yu,ya,yb⟩ ⟨xu,xa,xb⟩=bf at *;have k0:(0:Int)≤(q:Int):=by omega
    have k1:(q:Int)<(L.length:Int):=by omega
    have k2:(0:Int)<(q:Int)+1:=by omega
    have v1:IntKind.i64.wrap ((q:Int)+1-1)=(q:Int):=by rw [Int.add_sub_cancel];exact IntWalk.i64_in _ (by have:=HN.out;omega)
    have v2:IntKind.i64.wrap (q:Int)=(q:Int):=IntWalk.i64_in _ (by have:=HN.out;omega)
    have v3:IntKind.i64.wrap ((q:Int)+1+1)=(q:Int)+1+1:=IntWalk.i64_in _ (by have:=HN.out;omega)
    have v4:IntKind.i64.wrap ((q:Int)+1)=(q:Int)+1:=IntWalk.i64_in _ (by have:=HN.out;omega)
    cases bf with
    | false =>
     rw [if_pos ⟨by omega,rfl⟩] at hAE
     have hE:=hSome.out (by rw [hAE];decide)
     rw [hAE] at hE;have hV0:=hEr.out (by rw [hE];decide)
     subst hE hV0;obtain ⟨r0,r1,r2⟩:=HCq.out _ HB1.out;have hbw1:=HBl.out _ HB1.out;go_wp2_with (at_lookup;refine q002 _ rfl _ _ _ _ rfl _ _ underlying119 iK (KeyTy.int underlying3) M (rdL R) xu rfl rfl (HMb.out _ (by (repeat' first | exact Below.refl _ _ | assumption | apply Below.drew | apply q18 | refine Below.alloc ?_ ?_ _ | refine Below.setCell ?_ ?_ _ | refine Below.trans ?_ (Below.mono ‹_› ?_) | omega | (simp;omega) | simp))) (.slice none 0 0) (by simp) ?_;rw [HLV.out])
     rw [← HW1.out];have d0:=HX1.out.at_ (j:=0) rfl
     have d1:=HX1.out.at_ (j:=1) rfl
     have d2:=HX1.out.at_ (j:=2) rfl
     go_still_tail 9,(by kernel_rfl)
     change wpList _ _ _ _ _ W1.drew;have hBx:=HB1.out.drew;have hIx:=HI1.out.below (Below.refl W1.heap.size W1).drew;have hXx:=HX1.out.below (Below.refl W1.heap.size W1).drew HX1.out.1;generalize W1.drew=w6 at *;go_wp2_with fail;refine (HBq.out _).mono ?_;rintro e w7 ⟨rfl,hb⟩;have HBx:=Lib.hid (hBx.trans (hb.mono hBx.size));clear hb;go_wp2_with fail;go_ret2;exact ⟨_,rfl,Sh.Out.nil HBx.out⟩
    | true =>
     have HN2:=Lib.hid (hZero.out (by rw [hAE,if_neg (fun h=>absurd h.2 (by decide))]))
     obtain ⟨r0,r1,r2⟩:=HCq.out _ HB1.out;have hbw1:=HBl.out _ HB1.out;go_wp2_with (at_lookup;refine q002 _ rfl _ _ _ _ rfl _ _ underlying119 iK (KeyTy.int underlying3) M (rdL R) xu rfl rfl (HMb.out _ (by (repeat' first | exact Below.refl _ _ | assumption | apply Below.drew | apply q18 | refine Below.alloc ?_ ?_ _ | refine Below.setCell ?_ ?_ _ | refine Below.trans ?_ (Below.mono ‹_› ?_) | omega | (simp;omega) | simp))) (.slice none 0 0) (by simp) ?_;rw [HLV.out])
     rw [← HW1.out];have d0:=HX1.out.at_ (j:=0) rfl
     have d1:=HX1.out.at_ (j:=1) rfl
     have d2:=HX1.out.at_ (j:=2) rfl
     go_still_tail 9,(by kernel_rfl)
     change wpList _ _ _ _ _ W1.drew;have hBx:=HB1.out.drew;have hIx:=HI1.out.below (Below.refl W1.heap.size W1).drew;have hXx:=HX1.out.below (Below.refl W1.heap.size W1).drew HX1.out.1;generalize W1.drew=w6 at *;go_wp2_with fail;refine (HBq.out _).mono ?_;rintro e w7 ⟨rfl,hb⟩;replace hIx:=hIx.below hb;replace hXx:=hXx.below hb hXx.1;replace hBx:=hBx.trans (hb.mono hBx.size);clear hb;have f0:=hXx.at_ (j:=0) rfl
     have f1:=hXx.at_ (j:=1) rfl
     have f2:=hXx.at_ (j:=2) rfl
     obtain ⟨⟨old,z0⟩,z1,z2⟩:=HPg.out _ hIx;have HIx:=Lib.hid (HSt.out _ hIx);have HBx:=Lib.hid (show Below w.heap.size w (w7.setCell ⟨Bq,j,none⟩ (.int .u8 xb)) from hBx.setCell (by have:=HSw.out;show w.heap.size≤Bq;omega) _)
     clear hIx hXx hBx d0 d1 d2;go_wp2_with fail
     go_roundw
     case rel=>exact ⟨q+1+1,by omega,by go_num,HN2.out,HIx.out,HBx.out⟩
     case measure=>simp [intOf];omega
end

section
open Go.ChangeShapes Go.WideShapes Go.ChangeAt Go.RowKit Go.Deep
section
variable {H:Type} {enc:TypeId × Value→H} {w:World} {base:Nat} {spare:Nat→Bool} {held:Bool}
end
end

section
open Go.RowKit
end

end Go.Proofs.YtbfikenbgfnfiaaGreatDoor
