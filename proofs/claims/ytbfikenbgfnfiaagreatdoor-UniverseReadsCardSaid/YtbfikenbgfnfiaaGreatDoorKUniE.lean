/- Lemmas. -/
import Derived.Test.YtbfikenbgfnfiaaGreatDoorKUniD
namespace Go.Proofs.YtbfikenbgfnfiaaGreatDoor
set_option maxHeartbeats 32000000
set_option maxRecDepth 100000
open _root_.Go.Proofs.Tryz

section
open Go.RowKit
def Fm.at_ (f:Fm) (k:Nat):UInt8:=f.sl.data.toList.getD k 0
end

section
open Go.RowKit
theorem qn6 {w w1:World} {Q base z n:Nat} {c:Array Value} {t e:TypeId} {v:Value} {xs:List Value} (hR:RowAt w Q c t) (ho:w.ownsRow base e z v n xs) (hne:t≠e) (hg:w.grownBy w1 v.ownBlock):RowAt w1 Q c t:=by
 refine (hg.block Q hR.lt fun h=>?_).trans hR
 rcases ho.2 with ⟨rfl,_⟩ | ⟨g,cap,cur,rfl,_,hgg,_⟩
 ·cases h
 ·injection h with h
  subst h;have h':w.heap[Q]? = some (.cells c t (0,0)):=hR;rw [hgg] at h'
  injection h' with h'
  injection h' with _ h2
  exact hne h2.symm
end

section
open Go.ChangeShapes Go.WideShapes Go.ChangeAt Go.RowKit Go.Deep
def Fm.good (f:Fm):Prop:=f.sl.size≤maxLen
section
variable {H:Type} {enc:TypeId × Value→H} {w:World} {base:Nat} {spare:Nat→Bool} {held:Bool}
theorem q9j {fuel:Nat} {cs:List Value} {x:DataW H × List MemPlace} (h:DataW.trod enc prog w base spare held fuel 66 cs=some x):∃ g:Fm,cs=shFm.cs g∧g.good:=by
 obtain ⟨hl,hf⟩:=qt7 (fs:=prog.fieldsOf 66) (by kernel_rfl) h
 rw [show prog.cellsOf 66=2 by kernel_rfl] at hl
 rw [show (prog.fieldsOf 66).map (fun f=>(f.type,f.offset))=#[(3,0),(9,1)] by kernel_rfl] at hf
 obtain ⟨a,b,rfl⟩:=cells2 hl;obtain ⟨n0,y0,h0⟩:=hf 0 _ _ rfl;obtain ⟨n1,y1,h1⟩:=hf 1 _ _ rfl;rw [q2d] at h0;rw [show prog.cellsOf 9=1 by kernel_rfl] at h1
 obtain ⟨x1,rfl,g1⟩:=trod_i h0;obtain ⟨s,rfl,g0⟩:=qt8 h1;exact ⟨⟨x1,s⟩,rfl,g0⟩
end
end

section
open Go.RowKit
theorem qni (A:Option Addr) (n c:Nat) (l:List Fm) (w:World) (hl:shFm.In w A n l) (hn:n≤9223372036854775806) (hs:∀ x ∈ l,x.sl.size≤9223372036854775807) :
  Calls prog 137 #[.slice A n c] w fun e w'=>e=.returned (.int .i64 (rightE l))∧Below w.heap.size w w':=by
 obtain ⟨rfl,_⟩:=id hl;have hB:=Below.refl w.heap.size w;have hU:rightE l=if 8<l.length then 5 else firstE (rgE l) l.length:=rfl
 obtain ⟨E,hE⟩:∃ E,rightE l=E:=⟨_,rfl⟩;rw [hE] at hU ⊢;have HL:=hj_ hl;have HS:=hj_ hs;clear hl hE hs
 by_cases h1:8<l.length
 ·rw [if_pos h1] at hU
  subst hU;have g1:(8:Int)<(l.length:Int):=by omega
  go_enter func137,ntmps137
  go_wp2_with fail;go_ret;exact ⟨rfl,hB⟩
 have g1:¬ (8:Int)<(l.length:Int):=by omega
 rw [if_neg h1] at hU;have HU:=hj_ hU;clear hU
 go_enter func137,ntmps137
 go_wp2_with fail
 go_loopw [3] (fun iv wr=>∃ k:Nat,k≤l.length∧iv=.int .i64 k∧(∀ j,j<k→rgE l j=0)∧Below w.heap.size w wr) (fun iv _=>l.length-(intOf iv).toNat)
 case atStart=>exact ⟨0,Nat.zero_le _,rfl,fun j h=>absurd h (Nat.not_lt_zero _),hB⟩
 case round =>
  clear hB;obtain ⟨k,hk,rfl,hall,hB⟩:=hrel;have HAll:=hj_ hall;clear hall
  by_cases hlt:k<l.length
  case neg =>
   obtain rfl:k=l.length:=by omega
   have hU:=HU.out;rw [q86 HAll.out] at hU;subst hU;go_wp2_with fail;go_ret;exact ⟨rfl,hB⟩
  case pos =>
   obtain ⟨b,o,rfl,hbl,hcell⟩:=fm_at HL.out (by omega)
   obtain ⟨k0,k1⟩:=hcell k hlt;have p0:=(hB.cell (p:=⟨b,o+k*2,none⟩) hbl).trans k0;have p1:=(hB.cell (p:=⟨b,o+k*2+1,none⟩) hbl).trans k1;have hbw:b<wr.heap.size:=Nat.lt_of_lt_of_le hbl hB.size;have i0:(0:Int)≤(k:Int):=by omega
   have i1:(k:Int)<(l.length:Int):=by omega
   have w0:IntKind.i64.wrap ((k:Int)+1)=(k:Int)+1:=IntWalk.i64_in _ (by omega)
   have hSome:=hj_ (fun (h:rgE l k≠0)=>HU.out.trans (q87 HAll.out h hlt))
   have hZero:=hj_ (fun (h:rgE l k=0)=>q88 HAll.out h)
   have hAE:rgE l k=if l[k].un<1∨8<l[k].un then 2 else if l[k].sl.size≠512 then 14 else if 0<k∧l[k].un≤(l.getD (k-1) fm0).un then 9 else 0:=by
    unfold rgE;rw [qa1 hlt]
   have hprev:0<k→wr.cell? ⟨b,o+(k-1)*2,none⟩=some (.int .i64 (l.getD (k-1) fm0).un):=fun h=>by
    rw [qa1 (by omega)]
    exact (hB.cell (p:=⟨b,o+(k-1)*2,none⟩) hbl).trans (hcell (k-1) (by omega)).1
   have HPrev:=hj_ hprev;have hsz:=HS.out _ (List.getElem_mem hlt);clear hcell hprev k0 k1;generalize (l.getD (k-1) fm0).un=pu at *;generalize l[k]=x at *;obtain ⟨un,sl⟩:=x;dsimp only at p0 p1 hAE hsz;have HB:=hj_ hB;have n1:b<wr.heap.size+1:=by omega
   have n2:¬ b=wr.heap.size:=by omega
   by_cases h2:un<1
   ·rw [if_pos (.inl h2)] at hAE
    have hU:=hSome.out (by rw [hAE];decide)
    rw [hAE] at hU;subst hU;go_wp2_with fail;go_ret;exact ⟨rfl,HB.out⟩
   by_cases h3:8<un
   ·rw [if_pos (.inr h3)] at hAE
    have hU:=hSome.out (by rw [hAE];decide)
    rw [hAE] at hU;subst hU;go_wp2_with fail;go_ret;exact ⟨rfl,HB.out⟩
   rw [if_neg (by omega)] at hAE
   by_cases h4:sl.size=512
   case neg =>
    rw [if_pos h4] at hAE;have hU:=hSome.out (by rw [hAE];decide)
    rw [hAE] at hU;subst hU;have g2:((sl.size:Int) == 512)=false:=by rw [beq_eq_false_iff_ne];omega
    have g3:((sl.size:Int) != 512)=true:=by rw [bne,g2];rfl
    go_wp2_with fail;go_ret;exact ⟨rfl,HB.out⟩
   case pos =>
    rw [if_neg (fun h=>h h4)] at hAE
    have g2:((sl.size:Int) == 512)=true:=by rw [beq_iff_eq];omega
    have g3:((sl.size:Int) != 512)=false:=by rw [bne,g2];rfl
    by_cases hk0:k=0
    ·subst hk0
     simp only [Nat.zero_mul,Nat.add_zero] at p0 p1;have HN:=hj_ (hZero.out (by rw [hAE,if_neg (fun h=>absurd h.1 (by omega))]))
     go_wp2_with fail;go_quiet (fail);go_wp2_with fail
     go_roundw
     case rel=>exact ⟨1,by omega,by go_num,HN.out,q18 HB.out _⟩
     case measure=>simp [intOf];omega
    ·obtain ⟨j,rfl⟩:∃ j,k=j+1:=⟨k-1,by omega⟩
     have q0:=HPrev.out (by omega)
     rw [Nat.add_sub_cancel] at q0;have j0:(0:Int)≤(j:Int):=by omega
     have j1:(j:Int)<(l.length:Int):=by omega
     have j2:(0:Int)<(j:Int)+1:=by omega
     have w1:IntKind.i64.wrap ((j:Int)+1-1)=(j:Int):=by rw [Int.add_sub_cancel];exact IntWalk.i64_in _ (by omega)
     have w2:IntKind.i64.wrap (j:Int)=(j:Int):=IntWalk.i64_in _ (by omega)
     have w3:IntKind.i64.wrap ((j:Int)+1+1)=(j:Int)+1+1:=IntWalk.i64_in _ (by omega)
     have w4:IntKind.i64.wrap ((j:Int)+1)=(j:Int)+1:=IntWalk.i64_in _ (by omega)
     by_cases h5:un≤pu
     ·rw [if_pos ⟨by omega,h5⟩] at hAE
      have hU:=hSome.out (by rw [hAE];decide)
      rw [hAE] at hU;subst hU;go_wp2_with fail;go_quiet (fail);go_wp2_with fail;go_ret;exact ⟨rfl,q18 HB.out _⟩
     ·have HN:=hj_ (hZero.out (by rw [hAE,if_neg (fun h=>h5 h.2)]))
      go_wp2_with fail;go_quiet (fail);go_wp2_with fail
      go_roundw
      case rel=>exact ⟨j+1+1,by omega,by go_num,HN.out,q18 HB.out _⟩
      case measure=>simp [intOf];omega
theorem q92 {a b:Fm}:a=b↔a.un=b.un∧a.sl=b.sl:=by
 cases a;cases b
 simp
instance:DecidableEq Fm:=fun a b=>decidable_of_iff (a.un=b.un∧a.sl=b.sl) q92.symm
theorem q2h {a b:Cg}:a=b↔a.un=b.un∧a.ad=b.ad∧a.by_=b.by_:=by
 cases a;cases b
 simp
instance:DecidableEq Cg:=fun a b=>decidable_of_iff (a.un=b.un∧a.ad=b.ad∧a.by_=b.by_) q2h.symm
def fewFm (l:List Fm):Bool:=(l.take 12).all (fun x=>decide (x.sl.size≤1024)) && decide (l.length≤12)
theorem qm5 (A:Option Addr) (n c:Nat) (l:List Fm) (w:World) (hl:shFm.In w A n l) (hn:n≤9223372036854775806) :
  Calls prog 35 #[.slice A n c] w fun e w'=>e=.returned (.bool (fewFm l))∧Below w.heap.size w w':=by
 obtain ⟨rfl,_⟩:=id hl;have HL:=hj_ hl;have hB:=Below.refl w.heap.size w;obtain ⟨E,hE⟩:∃ E,fewFm l=E:=⟨_,rfl⟩;rw [hE];have HE:=hj_ hE;clear hl hE
 go_enter func35,ntmps35
 go_wp2_with fail
 go_loopw [3] (fun iv wr=>∃ k:Nat,k≤l.length∧k≤12∧iv=.int .i64 k∧(∀ i (h:i<l.length),i<k→l[i].sl.size≤1024)∧Below w.heap.size w wr) (fun iv _=>l.length-(intOf iv).toNat)
 case atStart=>exact ⟨0,Nat.zero_le _,by omega,rfl,fun i _ h=>absurd h (Nat.not_lt_zero _),hB⟩
 case round =>
  clear hB;obtain ⟨k,hk,hk12,rfl,hall,hB⟩:=hrel;have HAll:=hj_ hall;clear hall;have hdone:(k=l.length∨k=12)→E=decide (l.length≤12):=fun h=>by
   rw [← HE.out];unfold fewFm
   have:(l.take 12).all (fun x=>decide (x.sl.size≤1024))=true:=by
    rw [List.all_eq_true];intro x hx;obtain ⟨i,hi,rfl⟩:=List.getElem_of_mem hx;rw [List.length_take] at hi;rw [List.getElem_take];exact decide_eq_true (HAll.out i (by omega) (by omega))
   rw [this,Bool.true_and]
  by_cases hlt:k<l.length
  case neg =>
   obtain rfl:k=l.length:=by omega
   have hf:=hdone (.inl rfl);rw [decide_eq_true hk12] at hf;subst hf;have g1:(l.length:Int)≤12:=by omega
   clear hdone;go_wp2_with fail;go_ret;exact ⟨rfl,hB⟩
  case pos =>
   have i1:(k:Int)<(l.length:Int):=by omega
   by_cases h12:k<12
   case neg =>
    obtain rfl:k=12:=by omega
    have hf:=hdone (.inr rfl);rw [decide_eq_false (by omega)] at hf
    subst hf;have g1:¬ (l.length:Int)≤12:=by omega
    have i2:(12:Int)<(l.length:Int):=by omega
    clear hdone;go_wp2_with fail;go_ret;exact ⟨rfl,hB⟩
   case pos =>
    obtain ⟨b,o,rfl,hbl,hcell⟩:=fm_at HL.out (by omega)
    have p1:=(hB.cell (p:=⟨b,o+k*2+1,none⟩) hbl).trans (hcell k hlt).2;have hbw:b<wr.heap.size:=Nat.lt_of_lt_of_le hbl hB.size;have i0:(0:Int)≤(k:Int):=by omega
    have i2:(k:Int)<12:=by omega
    have w0:IntKind.i64.wrap ((k:Int)+1)=(k:Int)+1:=IntWalk.i64_in _ (by omega)
    have HNo:=hj_ (fun (h:¬ l[k].sl.size≤1024)=>show E=false from by
     rw [← HE.out];unfold fewFm;rw [Bool.and_eq_false_iff];refine .inl (List.all_eq_false.2 ⟨l[k],?_,by simpa using h⟩)
     rw [← List.getElem_take (j:=12) (h:=by rw [List.length_take];omega)]
     exact List.getElem_mem _)
    have HYes:=hj_ (fun (h:l[k].sl.size≤1024)=>show ∀ i (h:i<l.length),i<k+1→l[i].sl.size≤1024 from fun i hi hik=>by
     rcases Nat.lt_or_eq_of_le (Nat.le_of_lt_succ hik) with h2 | h2
     ·exact HAll.out i hi h2
     ·subst h2;exact h)
    clear hcell hdone;generalize l[k].sl=s at *
    by_cases hsz:s.size≤1024
    ·have HN:=hj_ (HYes.out hsz)
     have g1:¬ (1024:Int)<(s.size:Int):=by omega
     go_wp2_with fail
     go_roundw
     case rel=>exact ⟨k+1,hlt,by omega,by go_num,HN.out,hB⟩
     case measure=>simp [intOf];omega
    ·have hf:=HNo.out hsz
     subst hf;have g1:(1024:Int)<(s.size:Int):=by omega
     go_wp2_with fail;go_ret;exact ⟨rfl,hB⟩
end

section
open Go.RowKit
end

section
open Go.RowKit
end

end Go.Proofs.YtbfikenbgfnfiaaGreatDoor
