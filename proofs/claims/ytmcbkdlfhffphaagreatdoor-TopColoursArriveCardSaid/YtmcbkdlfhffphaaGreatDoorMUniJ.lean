/- Lemmas. -/
import Derived.Test.YtmcbkdlfhffphaaGreatDoorMUniI
namespace Go.Proofs.YtmcbkdlfhffphaaGreatDoor
set_option maxHeartbeats 32000000
open _root_.Go.Proofs.Tryz

section
open Go.RowKit
theorem qft {w:World} {base sz k n c:Nat} {e:TypeId} {A:Option Addr} {xs:List Value} (h:w.ownsRow base e sz (.slice A n c) k xs):n≤c∧c≤9223372036854775807:=by
 obtain ⟨_,⟨h1,_⟩ | ⟨g,cap,cur,h1,_,_,h2,h3,_⟩⟩:=h
 ·cases h1;exact ⟨Nat.le_refl _,Nat.zero_le _⟩
 ·cases h1;exact ⟨h2,h3⟩
theorem qif (f:FC) (A':Option Addr) (n' c':Nat) (H:List Hd) (L:List (List PT)) (w:World) (hl:InN w A' n' H L) (h0:0≤f.cu) (h1:f.cu≤n') (hn:n'≤9223372036854775807) (hcp:∀ h ∈ H,h.n≤h.c∧h.c≤9223372036854775807) :
  Calls prog 51 #[f.val,.slice A' n' c'] w fun e w'=>∃ A2 n2 c2,e=.returned (.slice A2 n2 c2)∧shP.In w' A2 n2 (qi6 f.cu L)∧(n2≤c2∧c2≤9223372036854775807)∧Below w.heap.size w w':=by
 obtain ⟨at_,bits,co,fi,cu,ho,lo,hi,sn,A,n,c⟩:=f
 replace h0:0≤cu:=h0;replace h1:cu≤n':=h1;show Calls prog 51 #[.agg #[.int .i64 at_,.int .i64 bits,.int .i64 co,.int .i64 fi,.int .i64 cu,.int .i64 ho,.int .i64 lo,.int .i64 hi,.bool sn,.slice A n c],.slice A' n' c'] w fun e w'=>∃ A2 n2 c2,e=.returned (.slice A2 n2 c2)∧shP.In w' A2 n2 (qi6 cu L)∧(n2≤c2∧c2≤9223372036854775807)∧Below w.heap.size w w'
 obtain ⟨W,hW⟩:∃ W,W=w.alloc (.cells #[.int .i64 at_,.int .i64 bits,.int .i64 co,.int .i64 fi,.int .i64 cu,.int .i64 ho,.int .i64 lo,.int .i64 hi,.bool sn,.slice A n c] 52):=⟨_,rfl⟩
 obtain ⟨hB0,hK⟩:=fbox at_ bits co fi cu ho lo hi sn A n c w W hW
 have HK:=hj_ hK;have HW:=hj_ hW;have HB0:=hj_ hB0;have hB:=Below.refl W.heap.size W;obtain ⟨c0,c1,c2,c3,c4,c5,c6,c7,c8,c9⟩:=hK W hB;clear hW hB0 hK;have HSt:=hj_ (fun w=>q3z w)
 by_cases hc:cu=0
 ·subst hc
  have hp:qi6 0 L=qqw:=by unfold qi6;rw [if_pos rfl]
  rw [hp];clear hl h0 h1 hcp
  go_enter func51,ntmps51
  go_wp2_with fail;rw [← HW.out];refine (HSt.out _).mono ?_;rintro e wk ⟨r,rfl,A2,c2,rfl,ho,hb⟩;replace hB:=ht_ hB hb;clear hb;go_wp2_with fail;go_ret;exact ⟨_,_,_,rfl,Sh.In.of_own ho rfl,qft ho,ht_ HB0.out hB⟩
 ·obtain ⟨j,rfl⟩:∃ j:Nat,cu=((j:Nat):Int)+1:=⟨(cu-1).toNat,by omega⟩
  have hj:j<n':=by omega
  obtain ⟨rfl,_⟩:=id hl.1;obtain ⟨b,o,rfl,hbl,hcell⟩:=hd_at hl.1 (by omega)
  have hjL:j<L.length:=by rw [← hl.2.1];exact hj
  have hp:qi6 ((j:Int)+1) L=L[j]:=by
   unfold qi6;rw [if_neg hc,show ((j:Int)+1-1).toNat=j by omega,qa1 hjL]
  rw [hp];have hq:=(hl.2.2 j hj hjL).below HB0.out;have p0:=(HB0.out.cell (p:=⟨b,o+j,none⟩) hbl).trans (hcell j hj);have hbw:b<W.heap.size:=Nat.lt_of_lt_of_le hbl HB0.out.size;have pw:=hcell j hj;have HCp:=hj_ (hcp _ (List.getElem_mem hj));have HQ:=hj_ hq;clear hl hcell hq hcp;generalize H[j].A=a2 at *;generalize H[j].n=n2 at *;generalize H[j].c=d2 at *;have g0:((j:Int)+1 == 0)=false:=by rw [beq_eq_false_iff_ne];omega
  have w1:IntKind.i64.wrap ((j:Int)+1-1)=(j:Int):=by rw [Int.add_sub_cancel];exact IntWalk.i64_in _ (by omega)
  have i0:(0:Int)≤(j:Int):=by omega
  have i1:(j:Int)<(H.length:Int):=by omega
  clear h0 h1 hc hp
  go_enter func51,ntmps51
  go_wp2_with fail;rw [← HW.out]
  try go_wp2_with fail
  go_ret;exact ⟨_,_,_,rfl,HQ.out,HCp.out,ht_ HB0.out hB⟩
end

section
open Go.RowKit
theorem qpc {pg:List UInt8} {ad:Int} {f:Fea} {raw:Int} {a:Nat} {ft:Int} (h1:1≤ad) (hc:0≤f.co∧f.co<ft) (hb:f.bits=8∨f.bits=16) (hf:f.bits=16→0≤f.fi∧f.fi<ft) (ho:¬ (ad≤(a:Int)+1∧(a:Int)+1<ad+ft)):(setF pg ad f raw)[a]? = pg[a]?:=by
 unfold setF;have n1:¬ (ad-1+f.co).toNat=a:=by omega
 by_cases h8:f.bits=8
 ·rw [if_pos h8,List.getElem?_set,if_neg n1]
 ·have h2:=hf (by omega)
  have n2:¬ (ad-1+f.fi).toNat=a:=by omega
  rw [if_neg h8,List.getElem?_set,if_neg n2,List.getElem?_set,if_neg n1]
theorem qpg {L:List (List PT)} {l:List Am} {x:Fx} {a:Nat} {ft:Int} (h1:1≤x.ad) (ho:¬ (x.ad≤(a:Int)+1∧(a:Int)+1<x.ad+ft)) (F:List Fea) (hF:∀ f ∈ F,(0≤f.co∧f.co<ft)∧(f.bits=8∨f.bits=16)∧(f.bits=16→0≤f.fi∧f.fi<ft)):∀ pg:List UInt8,(setX L l x pg F)[a]? = pg[a]?:=by
 unfold setX
 induction F with
 | nil=>intro pg;rfl
 | cons f F ih =>
  intro pg;rw [List.foldl_cons,ih (fun g hg=>hF g (List.mem_cons_of_mem _ hg))]
  obtain ⟨c1,c2,c3⟩:=hF f (List.mem_cons_self ..);exact qpc h1 c1 c2 c3 ho
def FitX (PL:List (PC × List Fea)) (x:Fx):Prop:=1≤x.ad∧∀ f ∈ featV PL x.pr,(0≤f.co∧f.co<footV (PL.map Prod.fst) x.pr)∧(f.bits=8∨f.bits=16)∧(f.bits=16→0≤f.fi∧f.fi<footV (PL.map Prod.fst) x.pr)
theorem fit_of {L:List (List PT)} {PL:List (PC × List Fea)} {X:List Fx} (hu:uniE L PL X=0):∀ x ∈ X,FitX PL x:=by
 obtain ⟨-,-,hFx,hFe⟩:=qu8 hu;intro x hx;obtain ⟨i,hi,rfl⟩:=List.getElem_of_mem hx;obtain ⟨hrn,-,-,p,hp⟩:=hFx i hi;refine ⟨?_,?_⟩
 ·unfold qkt at hrn
  simp only [Bool.and_eq_true,decide_eq_true_eq] at hrn;exact hrn.1.2.1
 ·have hpf:=q83 PL X[i].pr
  rw [hp] at hpf;intro f hf;unfold featV at hf
  cases hq:PL.find? (fun x=>decide (x.1.s=X[i].pr)) with
  | none=>rw [hq] at hf;exact absurd hf (List.not_mem_nil)
  | some y =>
   rw [hq] at hf hpf
   injection hpf with hpf
   have hft:footV (PL.map Prod.fst) X[i].pr=y.1.ft:=by unfold footV;rw [hp,hpf]
   have hg:=hFe y (List.mem_of_find?_eq_some hq) f hf;rw [hft];exact ⟨hg.2.1,(q0g hg.1).2.1,hg.2.2⟩
theorem qa7 (l:List Am):givE l=0↔l.length≤4096∧(∀ a ∈ l,paramE a.ch a.at_=0∧errLv a.lev.data.toList=0)∧l.Pairwise (fun x y=>q15 x y=true):=by
 constructor
 ·intro h
  refine ⟨(qa5 h).1,fun a ha=>?_,?_⟩
  ·obtain ⟨i,hi,rfl⟩:=List.getElem_of_mem ha
   have:=am_ok ((qa5 h).2 i hi)
   rw [qa1 hi] at this;exact ⟨this.2.2,this.1⟩
  ·rw [List.pairwise_iff_getElem]
   intro i j hi hj hij
   have:=qa6 h hij hj
   rwa [qa1 hi,qa1 hj] at this
 ·rintro ⟨h1,h2,h3⟩
  unfold givE;rw [if_neg (by omega)]
  refine q86 fun i hi=>?_
  obtain ⟨p1,p2⟩:=h2 _ (List.getElem_mem hi);unfold amE;rw [qa1 hi,if_neg (fun h=>h p1),if_neg (fun h=>h p2),if_neg]
  rintro ⟨h4,h5⟩;rw [qa1 (by omega)] at h5
  have:=List.pairwise_iff_getElem.1 h3 (i-1) i (by omega) hi (by omega)
  rw [this] at h5
  cases h5
theorem q9m (used:Int→Bool) (c:Int→List UInt8):∀ n,∀ x ∈ frmG used c n,x.sl=⟨(c x.un).toArray⟩
 | 0,x,h=>absurd h (List.not_mem_nil)
 | n+1,x,h=>by
  rw [frmG] at h
  rcases List.mem_append.1 h with h | h
  ·exact q9m used c n x h
  ·cases hu:used ((n:Int)+1) with
   | false=>rw [hu] at h;simp at h
   | true =>
    rw [hu,if_pos rfl,List.mem_singleton] at h;subst h
    rfl
end

section
open Go.RowKit
theorem infoAm:(prog.info? 62).map (fun i=>(i.zero,i.size,i.bytes))=some (some (.agg #[.int .i64 0,.int .i64 0,.string ⟨#[]⟩]),3,32):=by kernel_rfl
end

section
open Go.RowKit
theorem qah (w:World) (g o:Nat) (vs:List Value):w.grownBy (w.setCells g o vs) (some g):=by
 induction vs generalizing o w with
 | nil=>exact World.grownBy.refl _ _
 | cons v vs ih=>exact (qag w g o v).trans (ih (w.setCell ⟨g,o,none⟩ v) (o+1))
end

section
open Go.RowKit
end

section
open Go.RowKit
end

end Go.Proofs.YtmcbkdlfhffphaaGreatDoor
