/- Lemmas. -/
import Derived.Test.YtabhjdmmfdfpeaaGreatDoorKProD
namespace Go.Proofs.YtabhjdmmfdfpeaaGreatDoor
set_option maxHeartbeats 32000000
open _root_.Go.Proofs.Tryz
open Go.RowKit
variable {name:ByteArray} {L:List Fea} {cs:List Value} {fuel n:Nat} {v:Value}
section
open Go.ChangeShapes Go.WideShapes Go.ChangeAt Go.RowKit Go.Deep
theorem qfb {HH:Type} {enc:TypeId × Value→HH} {w:World} {base:Nat} {spare:Nat→Bool} {held:Bool} {t e:TypeId} {A:Option Addr} {c:Nat} {x:DataW HH × List MemPlace} (ht:prog.underlying t=some (.slice e))
  (h:DataW.trod enc prog w base spare held fuel t [.slice A n c]=some x):n≤c∧c≤maxLen:=by
 rcases open_slice ht h with ⟨h1,_⟩ | ⟨a,len,cap,m,k,D,Pl,hcs,hb,hl,hm,_⟩
 ·simp at h1
  obtain ⟨rfl,rfl,rfl⟩:=h1;exact ⟨Nat.le_refl _,Nat.zero_le _⟩
 ·simp at hcs
  obtain ⟨rfl,rfl,rfl⟩:=hcs;exact ⟨hl,hm⟩
end
def fewP (name:ByteArray) (L:List Fea):Bool:=decide (L.length≤40) && decide (name.size≤100) && L.all fun f=>decide (f.wh.length≤40)
theorem q7r {k:Nat} (hk:k<L.length) (h:¬ L[k].wh.length≤40):fewP name L=false:=by
 unfold fewP;rw [Bool.and_eq_false_iff]
 right
 rw [List.all_eq_false];exact ⟨L[k],List.getElem_mem hk,by simpa using h⟩
theorem q7t (h:¬ L.length≤40):fewP name L=false:=by unfold fewP;rw [decide_eq_false h];rfl
theorem q7q (h40:L.length≤40) (h:∀ i (h:i<L.length),L[i].wh.length≤40):fewP name L=decide (name.size≤100):=by
 unfold fewP
 have:(L.all fun f=>decide (f.wh.length≤40))=true:=by
  rw [List.all_eq_true];intro x hx;obtain ⟨i,hi,rfl⟩:=List.getElem_of_mem hx;exact decide_eq_true (h i hi)
 rw [this,decide_eq_true h40];simp
set_option maxRecDepth 100000 in
theorem qm6 (name:ByteArray) (foot watts:Int) (A:Option Addr) (n c:Nat) (H:List FC) (L:List Fea) (w:World) (hl:InF w A n H L) (hn:n≤9223372036854775807) :
  Rt 55 #[.agg #[.string name,.int .i64 foot,.int .i64 watts,.slice A n c]] w (.bool (fewP name L)):=by
 obtain ⟨rfl,_⟩:=id hl.1;obtain ⟨W,hW⟩:=ex_ (w.alloc (.cells #[.string name,.int .i64 foot,.int .i64 watts,.slice A H.length c] 87));have hB0:Below w.heap.size w W:=by rw [hW];exact (Below.refl _ w).alloc lr_ _
 have hlt:w.heap.size<W.heap.size:=by rw [hW];simp
 have HK:=hj_ (fun w' (h:Below W.heap.size W w')=>show w'.cell? ⟨w.heap.size,0,none⟩=some (.string name)∧w'.cell? ⟨w.heap.size,3,none⟩=some (.slice A H.length c) from
  ⟨(h.cell (p:=⟨w.heap.size,0,none⟩) hlt).trans (by rw [hW,World.cell?_alloc_new];rfl),(h.cell (p:=⟨w.heap.size,3,none⟩) hlt).trans (by rw [hW,World.cell?_alloc_new];rfl)⟩)
 have HW:=hj_ hW;have HB0:=hj_ hB0;have HL:=hj_ (hl.below hB0);have HLen:=hj_ hl.2.1;obtain ⟨E,hE⟩:=ex_ (fewP name L);rw [← hE];have HE:=hj_ hE;obtain ⟨c0,c3⟩:=HK.out W (br_);clear hl hE hW hB0 hlt
 go_enter func55,ntmps55
 go_wp2_with fail;rw [← HW.out]
 go_loopw [3] (fun iv wr=>∃ k:Nat,k≤H.length∧k≤40∧iv=.int .i64 k∧(∀ i (h:i<L.length),i<k→L[i].wh.length≤40)∧Below W.heap.size W wr) (fun iv _=>H.length-(intOf iv).toNat)
 case atStart=>exact ⟨0,Nat.zero_le _,Nat.zero_le _,rfl,fun i _ h=>absurd h (Nat.not_lt_zero _),br_⟩
 case round =>
  obtain ⟨k,hk,hk4,rfl,hall,hB⟩:=hrel;have HAll:=hj_ hall;clear hall;obtain ⟨c0,c3⟩:=HK.out _ hB;have HFin:=hj_ (ht_ HB0.out hB)
  by_cases hlt:k<H.length
  ·by_cases h40:k<40
   ·obtain ⟨b,o,rfl,hbl,hcell⟩:=ft_at HL.out.1 o_
    have hk2:k<L.length:=by rw [← HLen.out];exact hlt
    obtain ⟨-,-,-,-,-,-,-,-,-,p9⟩:=hcell k hlt;have p9:=(hB.cell (p:=⟨b,o+k*10+9,none⟩) hbl).trans p9;have hbw:b<wr.heap.size:=Nat.lt_of_lt_of_le hbl hB.size;have hq:=(HL.out.2.2 k hlt hk2).2.1;have HN:=hj_ (show (¬ H[k].n≤40→fewP name L=false)∧(H[k].n≤40→∀ i (h:i<L.length),i<k+1→L[i].wh.length≤40) from ⟨fun h=>q7r hk2 (by rw [← hq];exact h),fun h i hi hik=>by
     rcases Nat.lt_or_eq_of_le (Nat.le_of_lt_succ hik) with h1 | h1
     ·exact HAll.out i hi h1
     ·subst h1;rw [← hq];exact h⟩)
    clear hcell hq;generalize H[k].A=a at *;generalize H[k].n=m at *;generalize H[k].c=d at *;have i1:(k:Int)<(H.length:Int):=o_
    have i2:(k:Int)<40:=o_
    have i3:(0:Int)≤(k:Int):=o_
    by_cases hm:m≤40
    ·have HN2:=hj_ (HN.out.2 hm)
     have j1:¬ (40:Int)<(m:Int):=o_
     clear HN hm;go_wp2_with fail
     go_roundw
     case rel=>exact ⟨k+1,o_,o_,by go_num,HN2.out,hB⟩
     case measure=>simp [intOf];omega
    ·have hf:E=false:=HE.out.trans (HN.out.1 hm)
     have j1:(40:Int)<(m:Int):=o_
     subst hf;clear HN hm;go_wp2_with fail;go_ret;exact ⟨rfl,HFin.out⟩
   ·obtain rfl:k=40:=by omega
    have hf:E=false:=HE.out.trans (q7t (by rw [← HLen.out];omega))
    subst hf;have i1:(40:Int)<(H.length:Int):=o_
    have i2:¬ (H.length:Int)≤40:=o_
    have i3:decide ((H.length:Int)≤40)=false:=decide_eq_false i2;go_wp2_with fail;go_ret;exact ⟨rfl,HFin.out⟩
  ·obtain rfl:k=H.length:=by omega
   have hf:E=decide (name.size≤100):=HE.out.trans (q7q (by rw [← HLen.out];exact hk4) fun i hi=>HAll.out i hi (by rw [HLen.out];exact hi))
   have i2:(H.length:Int)≤40:=o_
   have i3:decide ((H.length:Int)≤40)=true:=decide_eq_true i2
   by_cases hs:name.size≤100
   ·rw [decide_eq_true hs] at hf
    subst hf;have i4:(name.size:Int)≤100:=o_
    go_wp2_with fail;go_ret;exact ⟨rfl,HFin.out⟩
   ·rw [decide_eq_false hs] at hf
    subst hf;have i4:¬ (name.size:Int)≤100:=o_
    go_wp2_with fail;go_ret;exact ⟨rfl,HFin.out⟩
section
open Go.ChangeShapes Go.WideShapes Go.ChangeAt Go.RowKit Go.Deep
section
variable {HH:Type} {enc:TypeId × Value→HH} {w:World} {base:Nat} {spare:Nat→Bool} {held:Bool}
theorem qt8 {y:DataW HH × List MemPlace} (h:DataW.trod enc prog w base spare held n 9 [v]=some y):∃ s,v=.string s∧s.size≤maxLen:=by
 obtain ⟨s,e,_,hw⟩:=DataW.trod_string underlying9 h;simp at e;exact ⟨s,e,hw⟩
theorem trod_b {y:DataW HH × List MemPlace} (h:DataW.trod enc prog w base spare held n 4 [v]=some y):∃ b,v=.bool b:=by
 obtain ⟨b,e,_⟩:=DataW.trod_bool underlying4 h;simp at e;exact ⟨b,e⟩
theorem qq2 {x:DataW HH × List MemPlace} (h:DataW.trod enc prog w base spare held fuel 361 cs=some x):∃ g:Slt,cs=shS.cs g∧(g.s.size≤maxLen∧OkI g.a∧OkI g.z):=by
 obtain ⟨hl,hf⟩:=qt7 (fs:=prog.fieldsOf 361) k_ h
 rw [show prog.cellsOf 361=3 by kernel_rfl] at hl
 rw [show (prog.fieldsOf 361).map (fun f=>(f.type,f.offset))=#[(9,0),(3,1),(3,2)] by kernel_rfl] at hf
 obtain ⟨a,b,c,rfl⟩:=cells3 hl;obtain ⟨n0,y0,h0⟩:=hf 0 _ _ rfl;obtain ⟨n1,y1,h1⟩:=hf 1 _ _ rfl;obtain ⟨n2,y2,h2⟩:=hf 2 _ _ rfl;rw [show prog.cellsOf 9=1 by kernel_rfl] at h0
 rw [q2d] at h1 h2;obtain ⟨s,rfl,g0⟩:=qt8 h0;obtain ⟨x1,rfl,g1⟩:=trod_i h1;obtain ⟨x2,rfl,g2⟩:=trod_i h2;exact ⟨⟨s,x1,x2⟩,rfl,g0,g1,g2⟩
theorem qq3 {y:DataW HH × List MemPlace} (h:DataW.trod enc prog w base spare held n 112 [v]=some y):∃ A m c wl,v=.slice A m c∧shS.In w A m wl∧(m≤c∧c≤maxLen)∧∀ x ∈ wl,x.s.size≤maxLen:=by
 have key:∀ A m c,v=.slice A m c→∃ A m c wl,v=.slice A m c∧shS.In w A m wl∧(m≤c∧c≤maxLen)∧∀ x ∈ wl,x.s.size≤maxLen:=fun A m c e=>by
  subst e;obtain ⟨l,hl,hg,_,_⟩:=qfc shS underlying112 (by kernel_rfl:prog.cellsOf 361=shS.z) d_ slt0 _ (fun _ _ _ h=>qq2 h) h
  exact ⟨A,m,c,l,rfl,hl,qfb underlying112 h,fun x hx=>(hg x hx).1⟩
 rcases open_slice underlying112 h with ⟨h1,_⟩ | ⟨a,len,cap,m,k,D,Pl,hcs,_⟩
 ·simp at h1;exact key _ _ _ h1
 ·simp at hcs;exact key _ _ _ hcs
theorem q2a (h:cs.length=10):∃ a b c d e f g i j k,cs=[a,b,c,d,e,f,g,i,j,k]:=by
 match cs,h with
 | [a,b,c,d,e,f,g,i,j,k],_=>exact ⟨a,b,c,d,e,f,g,i,j,k,rfl⟩
def FC.good (w:World) (f:FC):Prop:=(∃ wl,FW w f wl)∧OkI f.bits
theorem q7l {x:DataW HH × List MemPlace} (h:DataW.trod enc prog w base spare held fuel 114 cs=some x):∃ g:FC,cs=shF.cs g∧g.good w:=by
 obtain ⟨hl,hf⟩:=qt7 (fs:=prog.fieldsOf 114) k_ h
 rw [show prog.cellsOf 114=10 by kernel_rfl] at hl
 rw [show (prog.fieldsOf 114).map (fun f=>(f.type,f.offset))=#[(3,0),(3,1),(3,2),(3,3),(3,4),(3,5),(3,6),(3,7),(4,8),(112,9)] by kernel_rfl] at hf
 obtain ⟨a0,a1,a2,a3,a4,a5,a6,a7,a8,a9,rfl⟩:=q2a hl;obtain ⟨n0,y0,h0⟩:=hf 0 _ _ rfl;obtain ⟨n1,y1,h1⟩:=hf 1 _ _ rfl;obtain ⟨n2,y2,h2⟩:=hf 2 _ _ rfl;obtain ⟨n3,y3,h3⟩:=hf 3 _ _ rfl;obtain ⟨n4,y4,h4⟩:=hf 4 _ _ rfl;obtain ⟨n5,y5,h5⟩:=hf 5 _ _ rfl;obtain ⟨n6,y6,h6⟩:=hf 6 _ _ rfl;obtain ⟨n7,y7,h7⟩:=hf 7 _ _ rfl;obtain ⟨n8,y8,h8⟩:=hf 8 _ _ rfl;obtain ⟨n9,y9,h9⟩:=hf 9 _ _ rfl;rw [q2d] at h0 h1 h2 h3 h4 h5 h6 h7;rw [show prog.cellsOf 4=1 by kernel_rfl] at h8
 rw [show prog.cellsOf 112=1 by kernel_rfl] at h9
 obtain ⟨x0,rfl,_⟩:=trod_i h0;obtain ⟨x1,rfl,g1⟩:=trod_i h1;obtain ⟨x2,rfl,_⟩:=trod_i h2;obtain ⟨x3,rfl,_⟩:=trod_i h3;obtain ⟨x4,rfl,_⟩:=trod_i h4;obtain ⟨x5,rfl,_⟩:=trod_i h5;obtain ⟨x6,rfl,_⟩:=trod_i h6;obtain ⟨x7,rfl,_⟩:=trod_i h7;obtain ⟨x8,rfl⟩:=trod_b h8;obtain ⟨A,m,c,wl,rfl,hw,hc,hs⟩:=qq3 h9;refine ⟨⟨x0,x1,x2,x3,x4,x5,x6,x7,x8,A,m,c⟩,rfl,⟨wl,hw,⟨hc.1,?_⟩,fun x hx=>?_⟩,g1⟩
 ·have:=hc.2;unfold maxLen at this;show c≤_;omega
 ·have:=hs x hx;unfold maxLen at this;omega
end
end
end Go.Proofs.YtabhjdmmfdfpeaaGreatDoor
