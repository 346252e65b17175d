/- Lemmas. -/
import Derived.Test.YtmcbkdlfhffphaaGreatDoorRUniM
import Derived.Test.YtmcbkdlfhffphaaGreatDoorTTopA
namespace Go.Proofs.YtmcbkdlfhffphaaGreatDoor
set_option maxHeartbeats 32000000
open _root_.Go.Proofs.Tryz

section
open Go.RowKit
theorem idxA {α:Type} {p:α→Bool}:∀ {l:List α},0≤idxOf p l↔l.any p=true
 | []=>by unfold idxOf;simp
 | a :: l=>by
  have ih:=idxA (p:=p) (l:=l);rw [idxOf,List.any_cons]
  cases ha:p a with
  | true=>simp
  | false =>
   rw [if_neg Bool.false_ne_true,Bool.false_or,← ih]
   by_cases h2:idxOf p l<0
   ·rw [if_pos h2];constructor <;> intro h3 <;> omega
   ·rw [if_neg h2];constructor <;> intro h3 <;> omega
theorem q0cb (A:Option Addr) (n c:Nat) (l:List Int) (v:Int) (w:World) (hl:Is w A n l) (hn:n≤9223372036854775806) :
  Calls prog 69 #[.slice A n c,.int .i64 v] w fun e w'=>e=.returned (.int .i64 (idxOf (fun x=>decide (x=v)) l))∧Below w.heap.size w w':=by
 obtain ⟨rfl,_⟩:=id hl;have HL:=hj_ hl;obtain ⟨E,hE⟩:∃ E,E=idxOf (fun x=>decide (x=v)) l:=⟨_,rfl⟩
 rw [← hE];have HE:=hj_ hE;clear hl hE
 go_enter func69,ntmps69
 go_wp2_with fail
 go_loopw [8] (fun iv wr=>∃ k:Nat,k≤l.length∧iv=.int .i64 k∧(∀ j (h:j<l.length),j<k→decide (l[j]=v)=false)∧Below w.heap.size w wr) (fun iv _=>l.length-(intOf iv).toNat)
 case atStart=>exact ⟨0,Nat.zero_le _,rfl,fun j _ h=>absurd h (Nat.not_lt_zero _),br_⟩
 case round =>
  obtain ⟨k,hk,rfl,hall,hBr⟩:=hrel;have HAll:=hj_ hall;clear hall
  by_cases hlt:k<l.length
  ·obtain ⟨b,o,rfl,hbl,hcell⟩:=HL.out.at1 (k:=k) hlt
   have p0:=(hBr.cell (p:=⟨b,o+k,none⟩) hbl).trans hcell;have hbw:b<wr.heap.size:=Nat.lt_of_lt_of_le hbl hBr.size;have HY:=hj_ (show l[k]=v→E=k from fun h=>HE.out.trans (qbd (p:=fun x=>decide (x=v)) hlt (fun i hi=>HAll.out i (by omega) hi) (decide_eq_true h)))
   have HN:=hj_ (show ¬ l[k]=v→∀ j (h:j<l.length),j<k+1→decide (l[j]=v)=false from fun h j hj hjk=>by
    rcases Nat.lt_or_eq_of_le (Nat.le_of_lt_succ hjk) with h1 | h1
    ·exact HAll.out j hj h1
    ·subst h1;exact decide_eq_false h)
   have i0:(0:Int)≤(k:Int):=by omega
   have i1:(k:Int)<(l.length:Int):=by omega
   have HBr:=hj_ hBr;have HLt:=hj_ hlt;have w0:IntKind.i64.wrap ((k:Int)+1)=(k:Int)+1:=IntWalk.i64_in _ (by omega)
   clear hcell hBr HAll;generalize l[k]=x at *
   by_cases hx:x=v
   ·have hy:=HY.out hx
    subst hx hy;go_wp2_with fail;go_ret;exact ⟨rfl,HBr.out⟩
   ·have hn2:=HN.out hx
    have HN2:=hj_ hn2;have g1:(v == x)=false:=by rw [beq_eq_false_iff_ne];exact fun e=>hx e.symm
    clear hn2 HN HY;go_wp2_with fail
    go_roundw
    case rel=>exact ⟨k+1,HLt.out,by go_num,HN2.out,HBr.out⟩
    case measure=>simp [intOf];have:=HLt.out;omega
  ·obtain rfl:k=l.length:=by omega
   have he:E=-1:=by
    have h1:=qb9 (p:=fun x=>decide (x=v)) l
    by_cases h2:0≤idxOf (fun x=>decide (x=v)) l
    ·obtain ⟨x,hx,hp⟩:=List.any_eq_true.1 (idxA.1 h2)
     obtain ⟨j,hj,rfl⟩:=List.getElem_of_mem hx;rw [HAll.out j hj hj] at hp
     cases hp
    ·have:=HE.out;omega
   subst he;go_wp2_with fail;go_ret;exact ⟨rfl,hBr⟩
theorem q0c2 (A:Option Addr) (n c:Nat) (l:List Int) (v:Int) (w:World) (hl:Is w A n l) (hn:n≤9223372036854775806) :
  Calls prog 34 #[.slice A n c,.int .i64 v] w fun e w'=>e=.returned (.bool (decide (v ∈ l)))∧Below w.heap.size w w':=by
 have HI:=hj_ (q0cb A n c l v w hl hn);have hq:decide (v ∈ l)=decide (0≤idxOf (fun x=>decide (x=v)) l):=by
  rw [decide_eq_decide,idxA,List.any_eq_true]
  constructor
  ·intro h;exact ⟨v,h,decide_eq_true rfl⟩
  ·rintro ⟨x,hx,h⟩;rw [← of_decide_eq_true h];exact hx
 rw [hq];generalize idxOf (fun x=>decide (x=v)) l=I at *
 clear hl hn hq
 go_enter func34,ntmps34
 go_wp2_with fail;refine HI.out.mono ?_;rintro e wk ⟨rfl,hb⟩;go_wp2_with fail;go_ret;exact ⟨by first | rfl | exact ret_b (by simp),hb⟩
theorem q0cc (g:Nat) (cb:Array Value) (p:Int→Bool) (A:Option Addr) (n c:Nat) (l:List Int) (w:World) (eg:∀ args w,(callFunc g args).run prog w=.ok (.enter g args) w) (hl:Is w A n l) (hn:n≤9223372036854775806)
  (hf:∀ i (h:i<l.length) (W:World),Below w.heap.size w W→Calls prog g (#[.int .i64 l[i]] ++ cb) W fun e w'=>e=.returned (.bool (p l[i]))∧Below W.heap.size W w') :
  Calls prog 92 #[.slice A n c,.func (.func g) #[] cb] w fun e w'=>e=.returned (.int .i64 (idxOf p l))∧Below w.heap.size w w':=by
 obtain ⟨rfl,_⟩:=id hl;have HL:=hj_ hl;have HF:=hj_ hf;obtain ⟨E,hE⟩:∃ E,E=idxOf p l:=⟨_,rfl⟩;rw [← hE];have HE:=hj_ hE;clear hl hf hE
 go_enter func92,ntmps92
 go_wp2_with fail
 go_loopw [8] (fun iv wr=>∃ k:Nat,k≤l.length∧iv=.int .i64 k∧(∀ j (h:j<l.length),j<k→p l[j]=false)∧Below w.heap.size w wr) (fun iv _=>l.length-(intOf iv).toNat)
 case atStart=>exact ⟨0,Nat.zero_le _,rfl,fun j _ h=>absurd h (Nat.not_lt_zero _),br_⟩
 case round =>
  obtain ⟨k,hk,rfl,hall,hBr⟩:=hrel;have HAll:=hj_ hall;clear hall
  by_cases hlt:k<l.length
  ·obtain ⟨b,o,rfl,hbl,hcell⟩:=HL.out.at1 (k:=k) hlt
   have p0:=(hBr.cell (p:=⟨b,o+k,none⟩) hbl).trans hcell;have hbw:b<wr.heap.size:=Nat.lt_of_lt_of_le hbl hBr.size;have hc:=HF.out k hlt wr hBr;have HY:=hj_ (show p l[k]=true→E=k from fun h=>HE.out.trans (qbd hlt (fun i hi=>HAll.out i (by omega) hi) h))
   have HN:=hj_ (show p l[k]=false→∀ j (h:j<l.length),j<k+1→p l[j]=false from fun h j hj hjk=>by
    rcases Nat.lt_or_eq_of_le (Nat.le_of_lt_succ hjk) with h1 | h1
    ·exact HAll.out j hj h1
    ·subst h1;exact h)
   have i0:(0:Int)≤(k:Int):=by omega
   have i1:(k:Int)<(l.length:Int):=by omega
   have HBr:=hj_ hBr;have HLt:=hj_ hlt;have w0:IntKind.i64.wrap ((k:Int)+1)=(k:Int)+1:=IntWalk.i64_in _ (by omega)
   clear hcell hBr HAll;generalize l[k]=x at *;generalize hpx:p x=px at *;have HC:=hj_ hc;clear hc hpx
   cases px with
   | true =>
    have hy:=HY.out rfl;subst hy;go_wp2_with fail
    go_at_fn g
    refine HC.out.mono ?_;rintro e w2 ⟨rfl,hb⟩;have HB2:=hj_ (ht_ HBr.out hb);clear hb p0;go_wp2_with fail;go_ret;exact ⟨rfl,HB2.out⟩
   | false =>
    have hn2:=HN.out rfl;have HN2:=hj_ hn2;clear hn2 HN HY;go_wp2_with fail
    go_at_fn g
    refine HC.out.mono ?_;rintro e w2 ⟨rfl,hb⟩;have HB2:=hj_ (ht_ HBr.out hb);clear hb p0;go_wp2_with fail
    go_roundw
    case rel=>exact ⟨k+1,HLt.out,by go_num,HN2.out,HB2.out⟩
    case measure=>simp [intOf];have:=HLt.out;omega
  ·obtain rfl:k=l.length:=by omega
   have he:E=-1:=by
    have h1:=qb9 (p:=p) l
    by_cases h2:0≤idxOf p l
    ·obtain ⟨x,hx,hp⟩:=List.any_eq_true.1 (idxA.1 h2)
     obtain ⟨j,hj,rfl⟩:=List.getElem_of_mem hx;rw [HAll.out j hj hj] at hp
     cases hp
    ·have:=HE.out;omega
   subst he;go_wp2_with fail;go_ret;exact ⟨rfl,hBr⟩
theorem q0c3 (g:Nat) (cb:Array Value) (p:Int→Bool) (A:Option Addr) (n c:Nat) (l:List Int) (w:World) (eg:∀ args w,(callFunc g args).run prog w=.ok (.enter g args) w) (hl:Is w A n l) (hn:n≤9223372036854775806)
  (hf:∀ i (h:i<l.length) (W:World),Below w.heap.size w W→Calls prog g (#[.int .i64 l[i]] ++ cb) W fun e w'=>e=.returned (.bool (p l[i]))∧Below W.heap.size W w') :
  Calls prog 66 #[.slice A n c,.func (.func g) #[] cb] w fun e w'=>e=.returned (.bool (l.any p))∧Below w.heap.size w w':=by
 have HI:=hj_ (q0cc g cb p A n c l w eg hl hn hf);have hq:l.any p=decide (0≤idxOf p l):=by rw [Bool.eq_iff_iff,decide_eq_true_eq,idxA]
 rw [hq];generalize idxOf p l=I at *;clear hl hn hq hf
 go_enter func66,ntmps66
 go_wp2_with fail;refine HI.out.mono ?_;rintro e wk ⟨rfl,hb⟩;go_wp2_with fail;go_ret;exact ⟨by first | rfl | exact ret_b (by simp),hb⟩
end

section
open Go.RowKit
theorem q0cm (v:Int) (w:World) (hv:0≤v∧v≤65535):Calls prog 67 #[.int .i64 v] w fun e w'=>e=.returned (.bool false)∧Below w.heap.size w w':=by
 have g1:¬ v<0:=by omega
 have g2:¬ 65535<v:=by omega
 clear hv
 go_enter func67,ntmps67
 go_wp2_with fail;go_ret;exact ⟨by first | rfl | exact ret_b (by simp),br_⟩
theorem q0bl (A:Option Addr) (n c:Nat) (l:List Int) (w:World) (hl:Is w A n l) (hn:n≤9223372036854775806) (hr:∀ x ∈ l,0≤x∧x≤65535) :
  Calls prog 31 #[.slice A n c] w fun e w'=>e=.returned (.int .i64 0)∧Below w.heap.size w w':=by
 have hc:=q0c3 67 #[] (fun _=>false) A n c l w (enters_of func67 (by kernel_rfl) rfl) hl hn (fun i h W _=>q0cm l[i] W (hr _ (List.getElem_mem h)))
 rw [show (l.any fun _=>false)=false from by simp] at hc
 have HC:=hj_ hc;clear hc hl hn hr
 go_enter func31,ntmps31
 go_wp2_with fail;refine HC.out.mono ?_;rintro e wk ⟨rfl,hb⟩;go_wp2_with fail;go_ret;exact ⟨rfl,hb⟩
theorem q0c9 (A:Option Addr) (n c B:Nat) (l:List Int) (v:Int) (w:World) (hl:Is w A n l) (hn:n≤9223372036854775806) (hc:w.cell? ⟨B,0,none⟩=some (.slice A n c)) :
  Calls prog 68 #[.int .i64 v,.pointer (some ⟨B,0,none⟩)] w fun e w'=>e=.returned (.bool (!decide (v ∈ l)))∧Below w.heap.size w w':=by
 have HC:=hj_ (q0c2 A n c l v w hl hn);generalize decide (v ∈ l)=q at *;clear hl hn
 go_enter func68,ntmps68
 go_wp2_with fail;refine HC.out.mono ?_;rintro e wk ⟨rfl,hb⟩;go_wp2_with fail;go_ret;exact ⟨by first | rfl | exact ret_b (by simp),hb⟩
theorem q0ca (A:Option Addr) (n c:Nat) (l:List Int) (p q r:Int) (w:World) (hl:Is w A n l) (hn:n≤9223372036854775806) :
  Calls prog 33 #[.slice A n c,.agg #[.int .i64 p,.int .i64 q,.int .i64 r]] w fun e w'=>e=.returned (.bool (decide (p ∈ l) && decide (q ∈ l) && decide (r ∈ l)))∧Below w.heap.size w w':=by
 have HL:=hj_ hl;have HN:=hj_ hn;clear hl hn;obtain ⟨W,hW⟩:∃ W,W=((w.alloc (.cells #[.slice A n c] 49)).alloc (.cells #[.int .i64 p,.int .i64 q,.int .i64 r] 53)):=⟨_,rfl⟩;obtain ⟨hB0,hK0⟩:=box2 #[.slice A n c] 49 #[.int .i64 p,.int .i64 q,.int .i64 r] 53 w W hW;have hK:∀ w',Below W.heap.size W w'→w'.cell? ⟨w.heap.size,0,none⟩=some (.slice A n c)∧w'.cell? ⟨w.heap.size+1,0,none⟩=some (.int .i64 p)∧w'.cell? ⟨w.heap.size+1,1,none⟩=some (.int .i64 q)∧w'.cell? ⟨w.heap.size+1,2,none⟩=some (.int .i64 r):=fun w' h=>⟨(hK0 w' h).1 0 _ rfl,(hK0 w' h).2 0 _ rfl,(hK0 w' h).2 1 _ rfl,(hK0 w' h).2 2 _ rfl⟩
 have HK:=hj_ hK;have HW:=hj_ hW;have HB0:=hj_ hB0;have hB:=Below.refl W.heap.size W;obtain ⟨c0,c1,c2,c3⟩:=hK W hB;clear hW hB0 hK hK0;have hin:Is W (some ⟨w.heap.size+1,0,none⟩) 3 [p,q,r]:=by
  rw [HW.out]
  have:=Is.fresh (w.alloc (.cells #[.slice A n c] 49)) [p,q,r] 53 #[.int .i64 p,.int .i64 q,.int .i64 r] rfl
  rw [World.size_alloc] at this;exact this
 have hc:=q0c3 68 #[.pointer (some ⟨w.heap.size,0,none⟩)] (fun v=>!decide (v ∈ l)) (some ⟨w.heap.size+1,0,none⟩) 3 3 [p,q,r] W (enters_of func68 (by kernel_rfl) rfl) hin (by decide) (fun i h W' hB'=>q0c9 A n c w.heap.size l _ W' ((HL.out.below HB0.out).below hB') HN.out (HK.out _ hB').1)
 have hq:(!([p,q,r].any fun v=>!decide (v ∈ l)))=(decide (p ∈ l) && decide (q ∈ l) && decide (r ∈ l)):=by
  simp [List.any_cons,Bool.and_assoc]
 rw [← hq];generalize ([p,q,r].any fun v=>!decide (v ∈ l))=Q at *
 have HC:=hj_ hc;clear hc hin hq
 go_enter func33,ntmps33
 go_wp2_with fail;rw [← HW.out];refine HC.out.mono ?_;rintro e wk ⟨rfl,hb⟩;have HB2:=hj_ (ht_ HB0.out hb);clear hb;go_wp2_with fail;go_ret;exact ⟨by first | rfl | exact ret_b (by simp),HB2.out⟩
theorem q0d1 {fn:Func} {p q:Tmp} {ty tz:TypeId} (h:fn.results=#[.cell p ty,.cell q tz]) (tmps:Array Value) (P:Program) (w:World) :
  (results fn tmps).run P w =
   ((asAddr (tmps.getD p undef)).run P w).andThen fun a w₁=>((loadVar ty a).run P w₁).andThen fun x w₂=>((asAddr (tmps.getD q undef)).run P w₂).andThen fun b w₃=>((loadVar tz b).run P w₃).andThen fun y w₄=>.ok (.tuple #[x,y]) w₄:=by
 simp only [results,h];simp [Sem.run_bind,Result.andThen]
theorem q0d0 (w:World) :
  Calls prog 32 #[] w fun e w'=>e=.returned (.tuple #[.agg #[.int .i64 3,.int .i64 4,.int .i64 5],.agg #[.int .i64 8,.int .i64 9,.int .i64 10]])∧Below w.heap.size w w':=by
 obtain ⟨W,hW⟩:∃ W,W=((w.alloc (.cells #[.int .i64 0,.int .i64 0,.int .i64 0] 53)).alloc (.cells #[.int .i64 0,.int .i64 0,.int .i64 0] 53)):=⟨_,rfl⟩;have hWs:W.heap.size=w.heap.size+2:=by rw [hW];simp
 have hb0:Below w.heap.size w W:=by rw [hW];exact ((br_).alloc (Nat.le_refl _) _).alloc (by simp) _
 have hK0:Cells W w.heap.size [.int .i64 0,.int .i64 0,.int .i64 0]:=by
  rw [hW];exact (Cells.fresh w [.int .i64 0,.int .i64 0,.int .i64 0] _).below (B:=w.heap.size+1) ((br_).alloc (by simp) _) (by omega)
 have hK1:Cells W (w.heap.size+1) [.int .i64 0,.int .i64 0,.int .i64 0]:=by
  rw [hW]
  have:=Cells.fresh (w.alloc (.cells #[.int .i64 0,.int .i64 0,.int .i64 0] 53)) [.int .i64 0,.int .i64 0,.int .i64 0] 53
  rw [World.size_alloc] at this;exact this
 have HW:=hj_ hW;have HB0:=hj_ hb0;have a0:=hK0.at_ (j:=0) rfl
 have a1:=hK0.at_ (j:=1) rfl
 have a2:=hK0.at_ (j:=2) rfl
 have fa0:=hK0.fr (j:=0) rfl;have fa1:=hK0.fr (j:=1) rfl;have fa2:=hK0.fr (j:=2) rfl;have b0:=hK1.at_ (j:=0) rfl
 have b1:=hK1.at_ (j:=1) rfl
 have b2:=hK1.at_ (j:=2) rfl
 have fb0:=hK1.fr (j:=0) rfl;have fb1:=hK1.fr (j:=1) rfl;have fb2:=hK1.fr (j:=2) rfl;clear hW hb0 hK0 hK1
 go_enter func32,ntmps32
 go_upto_region 1 with fail
 rw [← HW.out];go_wp2_with fail;refine bodyPost_ret ?_ rfl ⟨rfl,?_⟩
 ·rw [q0d1 rfl]
  go_simp
 ·repeat (refine Below.setCell ?_ (by dsimp only;omega) _)
  exact HB0.out
end

section
open Go.RowKit
theorem Is.take {w:World} {A:Option Addr} {n:Nat} {l:List Int} (h:Is w A n l) {k:Nat} (hk:k≤n):Is w A k (l.take k):=by
 refine ⟨by rw [List.length_take,← h.1];omega,?_,fun h0=>?_⟩
 ·unfold iv;rw [List.length_map,List.length_take,← h.1];omega
 ·obtain ⟨b,o,e,hb,hc⟩:=h.2.2 (by omega)
  refine ⟨b,o,e,hb,fun j u hu=>hc j u ?_⟩
  unfold iv at hu ⊢;rw [List.map_take,List.getElem?_take] at hu
  by_cases hj:j<k
  ·rw [if_pos hj] at hu;exact hu
  ·rw [if_neg hj] at hu;cases hu
set_option maxRecDepth 100000 in
theorem q0c1 (A:Option Addr) (n c:Nat) (l:List Int) (w:World) (hl:Is w A n l) (hnc:n≤c) (h15:l.length≤15) (hr:∀ x ∈ l,3≤x∧x≤10) (hnd:l.Nodup) (h3:(3:Int) ∈ l) (h4:(4:Int) ∈ l) (h5:(5:Int) ∈ l) :
  Calls prog 30 #[.slice A n c] w fun e w'=>e=.returned (.int .i64 0)∧Below w.heap.size w w':=by
 obtain ⟨rfl,_⟩:=id hl;have HL:=hj_ hl;have HR:=hj_ hr;have HCt:=hj_ (fun (k:Nat) (hk:k<l.length) (w:World) (h:Is w A l.length l)=>q0c2 A k c (l.take k) l[k] w (h.take (by omega)) (by omega))
 have HNd:=hj_ (fun (k:Nat) (hk:k<l.length)=>show decide (l[k] ∈ l.take k)=false from decide_eq_false fun h=>by
  obtain ⟨j,hj,e⟩:=List.mem_take_iff_getElem.1 h
  have:=(List.pairwise_iff_getElem.1 hnd j k (by omega) hk (by omega))
  exact this e)
 have hHs:=fun (w:World) (h:Is w A l.length l)=>q0ca A l.length c l 3 4 5 w h (by omega)
 rw [decide_eq_true h3,decide_eq_true h4,decide_eq_true h5] at hHs;have HHs:=hj_ hHs;have HPr:=hj_ (fun w=>q0d0 w)
 have HNc:=hj_ (And.intro hnc h15);have g15:¬ (15:Int)<(l.length:Int):=by omega
 clear hl hr hnd h3 h4 h5 hHs hnc h15
 go_enter func30,ntmps30
 go_wp2_with fail
 go_loopw [12] (fun iv wr=>∃ k:Nat,k≤l.length∧iv=.int .i64 k∧Below w.heap.size w wr) (fun iv _=>l.length-(intOf iv).toNat)
 case atStart=>exact ⟨0,Nat.zero_le _,rfl,br_⟩
 case round =>
  obtain ⟨k,hk,rfl,hB⟩:=hrel;have HBr:=hj_ hB
  rename World=>V3
  clear hB
  by_cases hlt:k<l.length
  case neg =>
   obtain rfl:k=l.length:=by omega
   go_wp2_with fail;refine (HPr.out _).mono ?_;rintro e w1 ⟨rfl,hb⟩;have HB1:=hj_ (ht_ HBr.out hb);clear hb;obtain ⟨W1,hW1⟩:∃ W1,W1=(w1.alloc (.cells #[.int .i64 3,.int .i64 4,.int .i64 5] 53)).alloc (.cells #[.int .i64 8,.int .i64 9,.int .i64 10] 53):=⟨_,rfl⟩;have hW1s:W1.heap.size=w1.heap.size+2:=by rw [hW1];simp
   have hb1:Below w1.heap.size w1 W1:=by rw [hW1];exact ((br_).alloc (Nat.le_refl _) _).alloc (by simp) _
   have hC:Cells W1 w1.heap.size [.int .i64 3,.int .i64 4,.int .i64 5]:=by
    rw [hW1];exact (Cells.fresh w1 [.int .i64 3,.int .i64 4,.int .i64 5] _).below (B:=w1.heap.size+1) ((br_).alloc (by simp) _) (by omega)
   have HB2:=hj_ (ht_ HB1.out hb1);have HW1:=hj_ hW1;have x0:=hC.at_ (j:=0) rfl
   have x1:=hC.at_ (j:=1) rfl
   have x2:=hC.at_ (j:=2) rfl
   clear hW1 hb1 hC
   go_upto_region 12 with fail
   rw [← HW1.out];go_wp2_with fail;refine (HHs.out _ (HL.out.below HB2.out)).mono ?_;rintro e w2 ⟨rfl,hb⟩;have HB3:=hj_ (ht_ HB2.out hb);clear hb x0 x1 x2;go_wp2_with fail;go_ret;exact ⟨rfl,HB3.out⟩
  case pos =>
   obtain ⟨b,o,rfl,hbl,hcell⟩:=HL.out.at1 (k:=k) hlt;have p0:=(HBr.out.cell (p:=⟨b,o+k,none⟩) hbl).trans hcell;have hbw:b<V3.heap.size:=Nat.lt_of_lt_of_le hbl HBr.out.size;have hx:=HR.out _ (List.getElem_mem hlt);have hct:=HCt.out k hlt;rw [HNd.out k hlt] at hct;have HCk:=hj_ hct;have i0:(0:Int)≤(k:Int):=by omega
   have i1:(k:Int)<(l.length:Int):=by omega
   have i2:(k:Int)≤(c:Int):=by have:=HNc.out.1;omega
   have w0:IntKind.i64.wrap ((k:Int)+1)=(k:Int)+1:=IntWalk.i64_in _ (by have:=HNc.out.2;omega)
   have HLt:=hj_ hlt;clear hcell hct;generalize l[k]=x at *;have g1:¬ x<3:=by omega
   have g2:¬ (10:Int)<x:=by omega
   clear hx;go_wp2_with fail;refine (HCk.out _ (HL.out.below HBr.out)).mono ?_;rintro e w1 ⟨rfl,hb⟩;have HB1:=hj_ (ht_ HBr.out hb);clear hb p0;go_wp2_with fail
   go_roundw
   case rel=>exact ⟨k+1,HLt.out,by go_num,HB1.out⟩
   case measure=>simp [intOf];have:=HLt.out;omega
theorem q0cs (b o c:Nat) (x y z:Int) (w:World) (h0:w.cell? ⟨b,o,none⟩=some (.int .i64 x)) (h1:w.cell? ⟨b,o+1,none⟩=some (.int .i64 y)) (h2:w.cell? ⟨b,o+2,none⟩=some (.int .i64 z)) (hb:b<w.heap.size) :
  Calls prog 35 #[.slice (some ⟨b,o,none⟩) 3 c] w fun e w'=>e=.returned (.int .i64 (min (min x y) z))∧Below w.heap.size w w':=by
 go_enter func35,ntmps35
 go_wp2_with fail;have HC:=hj_ (And.intro h0 (And.intro h1 h2));have HBb:=hj_ hb;clear h0 h1 h2 hb
 go_loopw [3,4] (fun mv kv wr=>∃ (k:Nat) (m:Int),1≤k∧k≤3∧kv=.int .i64 k∧mv=.int .i64 m∧(k=1→m=x)∧(k=2→m=min x y)∧(k=3→m=min (min x y) z)∧Below w.heap.size w wr) (fun _ kv _=>3-(intOf kv).toNat)
 case atStart=>exact ⟨1,x,by omega,by omega,rfl,rfl,fun _=>rfl,fun h=>absurd h (by omega),fun h=>absurd h (by omega),br_⟩
 case round =>
  obtain ⟨k,m,hk1,hk3,rfl,rfl,e1,e2,e3,hB⟩:=hrel;have HBr:=hj_ hB;have p0:=(hB.cell (p:=⟨b,o,none⟩) HBb.out).trans HC.out.1;have p1:=(hB.cell (p:=⟨b,o+1,none⟩) HBb.out).trans HC.out.2.1;have p2:=(hB.cell (p:=⟨b,o+2,none⟩) HBb.out).trans HC.out.2.2;have hbw:b<wr.heap.size:=Nat.lt_of_lt_of_le HBb.out hB.size;clear hB;obtain rfl | rfl | rfl:k=1∨k=2∨k=3:=by omega
  ·obtain rfl:=e1 rfl
   clear e1 e2 e3;go_wp2_with fail
   go_roundw
   case rel=>exact ⟨2,_,by omega,by omega,by go_num,rfl,fun h=>absurd h (by omega),fun _=>rfl,fun h=>absurd h (by omega),HBr.out⟩
   case measure=>simp [intOf]
  ·obtain rfl:=e2 rfl
   clear e1 e2 e3;go_wp2_with fail
   go_roundw
   case rel=>exact ⟨3,_,by omega,by omega,by go_num,rfl,fun h=>absurd h (by omega),fun h=>absurd h (by omega),fun _=>by omega,HBr.out⟩
   case measure=>simp [intOf]
  ·obtain rfl:=e3 rfl
   clear e1 e2 e3;go_wp2_with fail;go_ret;exact ⟨rfl,HBr.out⟩
end

section
open Go.RowKit
theorem q00r {L:List (List PT)} {PL:List (PC × List Fea)} {X:List Fx} {l:List Am} (hu:uniE L PL X=0) (hg:givE l=0):frE L PL X l=0∧frV L PL X l=frmG (usedU X) (pageV L l PL X) 8∧RgL (frV L PL X l)∧(frV L PL X l).length≤8:=by
 have hE:frE L PL X l=0:=by unfold frE;rw [if_neg (fun h=>h hu),hg]
 have hV:frV L PL X l=frmG (usedU X) (pageV L l PL X) 8:=by unfold frV;rw [if_neg (fun h=>h hE)]
 refine ⟨hE,hV,?_,?_⟩
 ·rw [hV];exact (q9l _ _ (fun u=>qg7 L l PL u X) 8 (Nat.le_refl _)).1
 ·rw [hV];exact q9k _ _ 8
end

section
open Go.RowKit
def q0ce (N:Nat) (ft:Int) (G c:Nat):List (PC × List Fea):=[(⟨lampN,ft,0,some ⟨G,0,none⟩,N,c⟩,(lampFs N).map fun f=>f.fea [])]
theorem q0d9 {v:Int} (h:0≤v∧v≤65535):rawI 0 65535 (qi6 0 []) v=v:=by
 unfold qi6;rw [if_pos rfl];unfold rawI qqw;rw [qhy,if_pos (by show v≤65535;omega)]
 unfold rawQ;dsimp only;omega
theorem sz_lev {v:Int} (h:0≤v∧v≤65535):SzR 5 (v:Rat):=SzR.int (by omega) (by decide)
theorem q0c7 {v:Int} (h:0≤v∧v≤65535):FitR (v:Rat):=(sz_lev h).fit (by decide)
theorem q0bk {v:Int} (h:0≤v∧v≤65535):chkR (sR (v:Rat)).data.toList=0:=by rw [qog];exact q33 (q0c7 h)
theorem q0cd {v:Int} (h:0≤v∧v≤65535):InL (v:Rat):=⟨q24.2 h.1,q24.2 h.2⟩
theorem q0c5 {v:Int} (h:0≤v∧v≤65535):errLv (sR (v:Rat)).data.toList=0:=by
 unfold errLv;rw [if_neg (fun q=>q (q0bk h)),show valR (sR (v:Rat)).data.toList=(v:Rat) by rw [qog,qz3],if_pos (q0cd h)]
theorem q0d7 {v:Int} (h:0≤v∧v≤65535):(sR (v:Rat)).size≤80:=Nat.le_trans (sz_lev h).len (by decide)
theorem raw_at {L:List (List PT)} {PL:List (PC × List Fea)} {X:List Fx} {l:List Am} {ch at_:Int} {x:Fx} {f:Fea} (hu:uniE L PL X=0) (hg:givE l=0) (hs:∀ a ∈ l,a.lev.size≤80) (hh:havV PL X ch at_=some (x,f)) (hp:paramE ch at_=0) :
  rawUE L PL X (frV L PL X l) ch at_=0∧rawUV L PL X (frV L PL X l) ch at_=rawF L l x.ch f:=by
 obtain ⟨hx,hxc,hf,hfa⟩:=q050 hh;have hr:=rig_ok hu;obtain ⟨-,v1,r1,k1⟩:=q00r hu hg;have hin:=(q00y hu hg (fun a h=>Nat.le_trans (hs a h) (by decide)) hx).1
 have hun:=hr.un x hx;have hus:usedU X x.un=true:=by unfold usedU;exact List.any_eq_true.2 ⟨x,hx,by simp⟩
 obtain ⟨-,h2⟩:=q00z (q011 (c:=pageV L l PL X) hun.1 hus 8 hun.2);have hE:rawUE L PL X (frV L PL X l) ch at_=0:=by
  unfold rawUE;rw [if_neg (fun q=>q hu),if_neg (fun q=>q (qmd r1 k1)),if_neg (fun q=>q hp),hh]
  dsimp only;rw [v1,if_neg hin]
 refine ⟨hE,?_⟩;unfold rawUV;rw [hE,if_neg (fun q=>q rfl),hh]
 dsimp only;rw [v1,h2,shown hr hx hf]
theorem q01s:∀ i,i<4→aloneE ((lampF i).fea []) []=0
 | 0,_=>by kernel_rfl
 | 1,_=>by kernel_rfl
 | 2,_=>by kernel_rfl
 | 3,_=>by kernel_rfl
theorem q0ch (i:Nat) (hi:i<4) {l:List Am} {v:Int} (h:0≤v∧v≤65535) (ht:toldT l 1 ((lampF i).fea []).at_ ((lampF i).fea []).ho=sR (v:Rat)):rawF [] l 1 ((lampF i).fea [])=v:=by
 unfold rawF rawV;have hE:rawE ((lampF i).fea []) [] (sR (v:Rat))=0:=by
  unfold rawE;rw [q01s i hi,if_neg (fun q=>q rfl)]
  exact q0bk h
 rw [ht,hE,if_neg (fun q=>q rfl),show valR (sR (v:Rat)).data.toList=(v:Rat) by rw [qog,qz3]]
 show madeR 0 65535 (qi6 0 []) (v:Rat)=v
 have hok:OkC (qi6 0 []):=by unfold qi6;rw [if_pos rfl];exact qqx
 rw [← ql4 hok h.1 h.2,q0d9 h]
theorem q0cg (i:Nat) (hi:i<4) {v:Int} (h:0≤v∧v≤65535):levelE ((lampF i).fea []) [] v=0∧levelV ((lampF i).fea []) [] v=v:=by
 have hl:lvlOf ((lampF i).fea []).lo ((lampF i).fea []).hi (qi6 ((lampF i).fea []).cu []) v=v:=by
  show lvlOf 0 65535 (qi6 0 []) v=v
  unfold lvlOf;obtain ⟨k,rfl⟩:∃ k:Nat,v=(k:Int):=⟨v.toNat,by omega⟩
  refine qdl (by omega) (fun q hq=>?_) ?_
  ·rw [q0d9 (by omega)];exact decide_eq_false (by omega)
  ·rw [q0d9 (by omega)];exact decide_eq_true rfl
 have hE:levelE ((lampF i).fea []) [] v=0:=by
  unfold levelE;rw [q01s i hi,if_neg (fun q=>q rfl),hl,if_neg (by show ¬ (v<0∨65535<v);omega),if_neg (by omega)]
 exact ⟨hE,by unfold levelV;rw [hE,if_neg (fun q=>q rfl),hl]⟩
theorem q0ci (G c:Nat):uniE [] (q0ce 3 6 G c) lampX=0:=by kernel_rfl
def colA3 (x y z:Int):List Am:=[⟨1,3,sR (x:Rat)⟩,⟨1,4,sR (y:Rat)⟩,⟨1,5,sR (z:Rat)⟩]
theorem q0bq {x y z:Int} (hx:0≤x∧x≤65535) (hy:0≤y∧y≤65535) (hz:0≤z∧z≤65535):givE (colA3 x y z)=0:=by
 refine (qa7 _).2 ⟨by show 3≤4096;decide,fun a ha=>?_,?_⟩
 ·unfold colA3 at ha
  simp only [List.mem_cons,List.not_mem_nil,or_false] at ha
  rcases ha with rfl | rfl | rfl
  ·exact ⟨by show paramE 1 3=0;decide,q0c5 hx⟩
  ·exact ⟨by show paramE 1 4=0;decide,q0c5 hy⟩
  ·exact ⟨by show paramE 1 5=0;decide,q0c5 hz⟩
 ·unfold colA3
  simp [q15]
theorem q0bs {x y z:Int} (hx:0≤x∧x≤65535) (hy:0≤y∧y≤65535) (hz:0≤z∧z≤65535):∀ a ∈ colA3 x y z,a.lev.size≤80:=by
 intro a ha;unfold colA3 at ha;simp only [List.mem_cons,List.not_mem_nil,or_false] at ha
 rcases ha with rfl | rfl | rfl
 ·exact q0d7 hx
 ·exact q0d7 hy
 ·exact q0d7 hz
theorem q0bu (G c:Nat) {x y z:Int} (hx:0≤x∧x≤65535) (hy:0≤y∧y≤65535) (hz:0≤z∧z≤65535):rawUE [] (q0ce 3 6 G c) lampX (frV [] (q0ce 3 6 G c) lampX (colA3 x y z)) 1 3=0∧rawUV [] (q0ce 3 6 G c) lampX (frV [] (q0ce 3 6 G c) lampX (colA3 x y z)) 1 3=x:=by
 have hh:havV (q0ce 3 6 G c) lampX 1 3=some (⟨1,1,lampN,1,10,1,⟨#[]⟩⟩,(lampF 0).fea []):=by kernel_rfl
 obtain ⟨h1,h2⟩:=raw_at (q0ci G c) (q0bq hx hy hz) (q0bs hx hy hz) hh (by decide)
 refine ⟨h1,h2.trans ?_⟩;have ht:toldT (colA3 x y z) 1 ((lampF 0).fea []).at_ ((lampF 0).fea []).ho=sR (x:Rat):=by
  unfold toldT colA3
  rfl
 exact q0ch 0 (by decide) hx ht
theorem q0bv (G c:Nat) {x y z:Int} (hx:0≤x∧x≤65535) (hy:0≤y∧y≤65535) (hz:0≤z∧z≤65535):rawUE [] (q0ce 3 6 G c) lampX (frV [] (q0ce 3 6 G c) lampX (colA3 x y z)) 1 4=0∧rawUV [] (q0ce 3 6 G c) lampX (frV [] (q0ce 3 6 G c) lampX (colA3 x y z)) 1 4=y:=by
 have hh:havV (q0ce 3 6 G c) lampX 1 4=some (⟨1,1,lampN,1,10,1,⟨#[]⟩⟩,(lampF 1).fea []):=by kernel_rfl
 obtain ⟨h1,h2⟩:=raw_at (q0ci G c) (q0bq hx hy hz) (q0bs hx hy hz) hh (by decide)
 refine ⟨h1,h2.trans ?_⟩;have ht:toldT (colA3 x y z) 1 ((lampF 1).fea []).at_ ((lampF 1).fea []).ho=sR (y:Rat):=by
  unfold toldT colA3
  rfl
 exact q0ch 1 (by decide) hy ht
theorem q0bw (G c:Nat) {x y z:Int} (hx:0≤x∧x≤65535) (hy:0≤y∧y≤65535) (hz:0≤z∧z≤65535):rawUE [] (q0ce 3 6 G c) lampX (frV [] (q0ce 3 6 G c) lampX (colA3 x y z)) 1 5=0∧rawUV [] (q0ce 3 6 G c) lampX (frV [] (q0ce 3 6 G c) lampX (colA3 x y z)) 1 5=z:=by
 have hh:havV (q0ce 3 6 G c) lampX 1 5=some (⟨1,1,lampN,1,10,1,⟨#[]⟩⟩,(lampF 2).fea []):=by kernel_rfl
 obtain ⟨h1,h2⟩:=raw_at (q0ci G c) (q0bq hx hy hz) (q0bs hx hy hz) hh (by decide)
 refine ⟨h1,h2.trans ?_⟩;have ht:toldT (colA3 x y z) 1 ((lampF 2).fea []).at_ ((lampF 2).fea []).ho=sR (z:Rat):=by
  unfold toldT colA3
  rfl
 exact q0ch 2 (by decide) hz ht
theorem q0cj (G c:Nat):uniE [] (q0ce 4 8 G c) lampX=0:=by kernel_rfl
def colA4 (x y z u:Int):List Am:=[⟨1,3,sR (x:Rat)⟩,⟨1,4,sR (y:Rat)⟩,⟨1,5,sR (z:Rat)⟩,⟨1,6,sR (u:Rat)⟩]
theorem q0br {x y z u:Int} (hx:0≤x∧x≤65535) (hy:0≤y∧y≤65535) (hz:0≤z∧z≤65535) (hu:0≤u∧u≤65535):givE (colA4 x y z u)=0:=by
 refine (qa7 _).2 ⟨by show 4≤4096;decide,fun a ha=>?_,?_⟩
 ·unfold colA4 at ha
  simp only [List.mem_cons,List.not_mem_nil,or_false] at ha
  rcases ha with rfl | rfl | rfl | rfl
  ·exact ⟨by show paramE 1 3=0;decide,q0c5 hx⟩
  ·exact ⟨by show paramE 1 4=0;decide,q0c5 hy⟩
  ·exact ⟨by show paramE 1 5=0;decide,q0c5 hz⟩
  ·exact ⟨by show paramE 1 6=0;decide,q0c5 hu⟩
 ·unfold colA4
  simp [q15]
theorem q0bt {x y z u:Int} (hx:0≤x∧x≤65535) (hy:0≤y∧y≤65535) (hz:0≤z∧z≤65535) (hu:0≤u∧u≤65535):∀ a ∈ colA4 x y z u,a.lev.size≤80:=by
 intro a ha;unfold colA4 at ha;simp only [List.mem_cons,List.not_mem_nil,or_false] at ha
 rcases ha with rfl | rfl | rfl | rfl
 ·exact q0d7 hx
 ·exact q0d7 hy
 ·exact q0d7 hz
 ·exact q0d7 hu
theorem q0bx (G c:Nat) {x y z u:Int} (hx:0≤x∧x≤65535) (hy:0≤y∧y≤65535) (hz:0≤z∧z≤65535) (hu:0≤u∧u≤65535):rawUE [] (q0ce 4 8 G c) lampX (frV [] (q0ce 4 8 G c) lampX (colA4 x y z u)) 1 3=0∧rawUV [] (q0ce 4 8 G c) lampX (frV [] (q0ce 4 8 G c) lampX (colA4 x y z u)) 1 3=x:=by
 have hh:havV (q0ce 4 8 G c) lampX 1 3=some (⟨1,1,lampN,1,10,1,⟨#[]⟩⟩,(lampF 0).fea []):=by kernel_rfl
 obtain ⟨h1,h2⟩:=raw_at (q0cj G c) (q0br hx hy hz hu) (q0bt hx hy hz hu) hh (by decide)
 refine ⟨h1,h2.trans ?_⟩;have ht:toldT (colA4 x y z u) 1 ((lampF 0).fea []).at_ ((lampF 0).fea []).ho=sR (x:Rat):=by
  unfold toldT colA4
  rfl
 exact q0ch 0 (by decide) hx ht
theorem q0by (G c:Nat) {x y z u:Int} (hx:0≤x∧x≤65535) (hy:0≤y∧y≤65535) (hz:0≤z∧z≤65535) (hu:0≤u∧u≤65535):rawUE [] (q0ce 4 8 G c) lampX (frV [] (q0ce 4 8 G c) lampX (colA4 x y z u)) 1 4=0∧rawUV [] (q0ce 4 8 G c) lampX (frV [] (q0ce 4 8 G c) lampX (colA4 x y z u)) 1 4=y:=by
 have hh:havV (q0ce 4 8 G c) lampX 1 4=some (⟨1,1,lampN,1,10,1,⟨#[]⟩⟩,(lampF 1).fea []):=by kernel_rfl
 obtain ⟨h1,h2⟩:=raw_at (q0cj G c) (q0br hx hy hz hu) (q0bt hx hy hz hu) hh (by decide)
 refine ⟨h1,h2.trans ?_⟩;have ht:toldT (colA4 x y z u) 1 ((lampF 1).fea []).at_ ((lampF 1).fea []).ho=sR (y:Rat):=by
  unfold toldT colA4
  rfl
 exact q0ch 1 (by decide) hy ht
theorem q0bz (G c:Nat) {x y z u:Int} (hx:0≤x∧x≤65535) (hy:0≤y∧y≤65535) (hz:0≤z∧z≤65535) (hu:0≤u∧u≤65535):rawUE [] (q0ce 4 8 G c) lampX (frV [] (q0ce 4 8 G c) lampX (colA4 x y z u)) 1 5=0∧rawUV [] (q0ce 4 8 G c) lampX (frV [] (q0ce 4 8 G c) lampX (colA4 x y z u)) 1 5=z:=by
 have hh:havV (q0ce 4 8 G c) lampX 1 5=some (⟨1,1,lampN,1,10,1,⟨#[]⟩⟩,(lampF 2).fea []):=by kernel_rfl
 obtain ⟨h1,h2⟩:=raw_at (q0cj G c) (q0br hx hy hz hu) (q0bt hx hy hz hu) hh (by decide)
 refine ⟨h1,h2.trans ?_⟩;have ht:toldT (colA4 x y z u) 1 ((lampF 2).fea []).at_ ((lampF 2).fea []).ho=sR (z:Rat):=by
  unfold toldT colA4
  rfl
 exact q0ch 2 (by decide) hz ht
theorem q0c0 (G c:Nat) {x y z u:Int} (hx:0≤x∧x≤65535) (hy:0≤y∧y≤65535) (hz:0≤z∧z≤65535) (hu:0≤u∧u≤65535):rawUE [] (q0ce 4 8 G c) lampX (frV [] (q0ce 4 8 G c) lampX (colA4 x y z u)) 1 6=0∧rawUV [] (q0ce 4 8 G c) lampX (frV [] (q0ce 4 8 G c) lampX (colA4 x y z u)) 1 6=u:=by
 have hh:havV (q0ce 4 8 G c) lampX 1 6=some (⟨1,1,lampN,1,10,1,⟨#[]⟩⟩,(lampF 3).fea []):=by kernel_rfl
 obtain ⟨h1,h2⟩:=raw_at (q0cj G c) (q0br hx hy hz hu) (q0bt hx hy hz hu) hh (by decide)
 refine ⟨h1,h2.trans ?_⟩;have ht:toldT (colA4 x y z u) 1 ((lampF 3).fea []).at_ ((lampF 3).fea []).ho=sR (u:Rat):=by
  unfold toldT colA4
  rfl
 exact q0ch 3 (by decide) hu ht
end

end Go.Proofs.YtmcbkdlfhffphaaGreatDoor
