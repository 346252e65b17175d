/- Lemmas and contracts of functions, joined for the claim: UDiff, UDiff2, URef13, URef13b, URef13c, UOpen. -/
import Derived.Test.YtbfikenbgfnfiaaGreatDoorKUniD
import Derived.Test.YtbfikenbgfnfiaaGreatDoorKUniA
import Derived.Test.YtbfikenbgfnfiaaGreatDoorKOpen
import Derived.Test.YtbfikenbgfnfiaaGreatDoorKProE
import Derived.Test.YtbfikenbgfnfiaaGreatDoorKProA
import Derived.Test.YtbfikenbgfnfiaaGreatDoorKUp
namespace Go.Proofs.YtbfikenbgfnfiaaGreatDoor
set_option maxHeartbeats 32000000
open _root_.Go.Proofs.Tryz

section
open Go.RowKit
def Fm.at_ (f:Fm) (k:Nat):UInt8:=f.sl.data.toList.getD k 0
end

section
open Go.RowKit
theorem qn6 {w w1:World} {Q base z n:Nat} {c:Array Value} {t e:TypeId} {v:Value} {xs:List Value} (hR:RowAt w Q c t) (ho:w.ownsRow base e z v n xs) (hne:t≠e) (hg:w.grownBy w1 v.ownBlock):RowAt w1 Q c t:=by
 refine (hg.block Q hR.lt fun h=>?_).trans hR
 rcases ho.2 with ⟨rfl,_⟩ | ⟨g,cap,cur,rfl,_,hgg,_⟩
 ·cases h
 ·injection h with h
  subst h;have h':w.heap[Q]? = some (.cells c t (0,0)):=hR;rw [hgg] at h'
  injection h' with h'
  injection h' with _ h2
  exact hne h2.symm
end

section
open Go.ChangeShapes Go.WideShapes Go.ChangeAt Go.RowKit Go.Deep
section
variable {H:Type} {enc:TypeId × Value→H} {w:World} {base:Nat} {spare:Nat→Bool} {held:Bool}
end
end

section
open Go.RowKit
set_option maxRecDepth 100000 in
theorem qni (A:Option Addr) (n c:Nat) (l:List Fm) (w:World) (hl:shFm.In w A n l) (hn:n≤9223372036854775806) (hs:∀ x ∈ l,x.sl.size≤9223372036854775807) :
  Calls prog 137 #[.slice A n c] w fun e w'=>e=.returned (.int .i64 (rightE l))∧Below w.heap.size w w':=by
 obtain ⟨rfl,_⟩:=id hl;have hB:=Below.refl w.heap.size w;have hU:rightE l=if 8<l.length then 5 else firstE (rgE l) l.length:=rfl
 obtain ⟨E,hE⟩:∃ E,rightE l=E:=⟨_,rfl⟩;rw [hE] at hU ⊢;have HL:=Lib.hid hl;have HS:=Lib.hid hs;clear hl hE hs
 by_cases h1:8<l.length
 ·rw [if_pos h1] at hU
  subst hU;have g1:(8:Int)<(l.length:Int):=by omega
  go_enter func137,ntmps137
  go_wp2_with fail;go_ret;exact ⟨rfl,hB⟩
 have g1:¬ (8:Int)<(l.length:Int):=by omega
 rw [if_neg h1] at hU;have HU:=Lib.hid hU;clear hU
 go_enter func137,ntmps137
 go_wp2_with fail
 go_loopw [3] (fun iv wr=>∃ k:Nat,k≤l.length∧iv=.int .i64 k∧(∀ j,j<k→rgE l j=0)∧Below w.heap.size w wr) (fun iv _=>l.length-(intOf iv).toNat)
 case atStart=>exact ⟨0,Nat.zero_le _,rfl,fun j h=>absurd h (Nat.not_lt_zero _),hB⟩
 case round =>
  clear hB;obtain ⟨k,hk,rfl,hall,hB⟩:=hrel;have HAll:=Lib.hid hall;clear hall
  by_cases hlt:k<l.length
  case neg =>
   obtain rfl:k=l.length:=by omega
   have hU:=HU.out;rw [q86 HAll.out] at hU;subst hU;go_wp2_with fail;go_ret;exact ⟨rfl,hB⟩
  case pos =>
   obtain ⟨b,o,rfl,hbl,hcell⟩:=fm_at HL.out (by omega)
   obtain ⟨k0,k1⟩:=hcell k hlt;have p0:=(hB.cell (p:=⟨b,o+k*2,none⟩) hbl).trans k0;have p1:=(hB.cell (p:=⟨b,o+k*2+1,none⟩) hbl).trans k1;have hbw:b<wr.heap.size:=Nat.lt_of_lt_of_le hbl hB.size;have i0:(0:Int)≤(k:Int):=by omega
   have i1:(k:Int)<(l.length:Int):=by omega
   have w0:IntKind.i64.wrap ((k:Int)+1)=(k:Int)+1:=IntWalk.i64_in _ (by omega)
   have hSome:=Lib.hid (fun (h:rgE l k≠0)=>HU.out.trans (q87 HAll.out h hlt))
   have hZero:=Lib.hid (fun (h:rgE l k=0)=>q88 HAll.out h)
   have hAE:rgE l k=if l[k].un<1∨8<l[k].un then 2 else if l[k].sl.size≠512 then 14 else if 0<k∧l[k].un≤(l.getD (k-1) fm0).un then 9 else 0:=by
    unfold rgE;rw [qa1 hlt]
   have hprev:0<k→wr.cell? ⟨b,o+(k-1)*2,none⟩=some (.int .i64 (l.getD (k-1) fm0).un):=fun h=>by
    rw [qa1 (by omega)]
    exact (hB.cell (p:=⟨b,o+(k-1)*2,none⟩) hbl).trans (hcell (k-1) (by omega)).1
   have HPrev:=Lib.hid hprev;have hsz:=HS.out _ (List.getElem_mem hlt);clear hcell hprev k0 k1;generalize (l.getD (k-1) fm0).un=pu at *;generalize l[k]=x at *;obtain ⟨un,sl⟩:=x;dsimp only at p0 p1 hAE hsz;have HB:=Lib.hid hB;have n1:b<wr.heap.size+1:=by omega
   have n2:¬ b=wr.heap.size:=by omega
   by_cases h2:un<1
   ·rw [if_pos (.inl h2)] at hAE
    have hU:=hSome.out (by rw [hAE];decide)
    rw [hAE] at hU;subst hU;go_wp2_with fail;go_ret;exact ⟨rfl,HB.out⟩
   by_cases h3:8<un
   ·rw [if_pos (.inr h3)] at hAE
    have hU:=hSome.out (by rw [hAE];decide)
    rw [hAE] at hU;subst hU;go_wp2_with fail;go_ret;exact ⟨rfl,HB.out⟩
   rw [if_neg (by omega)] at hAE
   by_cases h4:sl.size=512
   case neg =>
    rw [if_pos h4] at hAE;have hU:=hSome.out (by rw [hAE];decide)
    rw [hAE] at hU;subst hU;have g2:((sl.size:Int) == 512)=false:=by rw [beq_eq_false_iff_ne];omega
    have g3:((sl.size:Int) != 512)=true:=by rw [bne,g2];rfl
    go_wp2_with fail;go_ret;exact ⟨rfl,HB.out⟩
   case pos =>
    rw [if_neg (fun h=>h h4)] at hAE
    have g2:((sl.size:Int) == 512)=true:=by rw [beq_iff_eq];omega
    have g3:((sl.size:Int) != 512)=false:=by rw [bne,g2];rfl
    by_cases hk0:k=0
    ·subst hk0
     simp only [Nat.zero_mul,Nat.add_zero] at p0 p1;have HN:=Lib.hid (hZero.out (by rw [hAE,if_neg (fun h=>absurd h.1 (by omega))]))
     go_wp2_with fail;go_quiet (fail);go_wp2_with fail
     go_roundw
     case rel=>exact ⟨1,by omega,by go_num,HN.out,q18 HB.out _⟩
     case measure=>simp [intOf];omega
    ·obtain ⟨j,rfl⟩:∃ j,k=j+1:=⟨k-1,by omega⟩
     have q0:=HPrev.out (by omega)
     rw [Nat.add_sub_cancel] at q0;have j0:(0:Int)≤(j:Int):=by omega
     have j1:(j:Int)<(l.length:Int):=by omega
     have j2:(0:Int)<(j:Int)+1:=by omega
     have w1:IntKind.i64.wrap ((j:Int)+1-1)=(j:Int):=by rw [Int.add_sub_cancel];exact IntWalk.i64_in _ (by omega)
     have w2:IntKind.i64.wrap (j:Int)=(j:Int):=IntWalk.i64_in _ (by omega)
     have w3:IntKind.i64.wrap ((j:Int)+1+1)=(j:Int)+1+1:=IntWalk.i64_in _ (by omega)
     have w4:IntKind.i64.wrap ((j:Int)+1)=(j:Int)+1:=IntWalk.i64_in _ (by omega)
     by_cases h5:un≤pu
     ·rw [if_pos ⟨by omega,h5⟩] at hAE
      have hU:=hSome.out (by rw [hAE];decide)
      rw [hAE] at hU;subst hU;go_wp2_with fail;go_quiet (fail);go_wp2_with fail;go_ret;exact ⟨rfl,q18 HB.out _⟩
     ·have HN:=Lib.hid (hZero.out (by rw [hAE,if_neg (fun h=>h5 h.2)]))
      go_wp2_with fail;go_quiet (fail);go_wp2_with fail
      go_roundw
      case rel=>exact ⟨j+1+1,by omega,by go_num,HN.out,q18 HB.out _⟩
      case measure=>simp [intOf];omega
theorem q92 {a b:Fm}:a=b↔a.un=b.un∧a.sl=b.sl:=by
 cases a;cases b
 simp
instance:DecidableEq Fm:=fun a b=>decidable_of_iff (a.un=b.un∧a.sl=b.sl) q92.symm
theorem q2h {a b:Cg}:a=b↔a.un=b.un∧a.ad=b.ad∧a.by_=b.by_:=by
 cases a;cases b
 simp
instance:DecidableEq Cg:=fun a b=>decidable_of_iff (a.un=b.un∧a.ad=b.ad∧a.by_=b.by_) q2h.symm
set_option maxRecDepth 100000 in
theorem qnj (A B:Option Addr) (n m c d:Nat) (l k:List Fm) (w:World) (hl:shFm.In w A n l) (hk:shFm.In w B m k) (hn:n≤9223372036854775807) (hm:m≤9223372036854775807) :
  Calls prog 17 #[.slice A n c,.slice B m d] w fun e w'=>e=.returned (.bool (decide (l=k)))∧Below w.heap.size w w':=by
 obtain ⟨rfl,_⟩:=id hl;obtain ⟨rfl,_⟩:=id hk;have hB:=Below.refl w.heap.size w
 by_cases hlen:l.length=k.length
 ·obtain ⟨r,hr⟩:∃ r,r=decide (l=k):=⟨_,rfl⟩
  rw [← hr];have HR:=Lib.hid hr;have HLen:=Lib.hid hlen;have hl2:((l.length:Int) == (k.length:Int))=true:=by rw [beq_iff_eq];omega
  have HN:=Lib.hid hn;clear hr hB;rw [hlen] at hn ⊢;clear hlen hl2
  go_enter func17,ntmps17
  go_wp2
  go_loopw [5] (fun iv wr=>∃ j:Nat,j≤k.length∧iv=.int .i64 j∧(∀ i (h1:i<l.length) (h2:i<k.length),i<j→l[i]=k[i])∧Below w.heap.size w wr) (fun iv _=>k.length-(intOf iv).toNat)
  case atStart=>exact ⟨0,Nat.zero_le _,rfl,fun _ _ _ h=>absurd h (by omega),Below.refl _ _⟩
  case round =>
   obtain ⟨j,hj,rfl,hall,hBr⟩:=hrel;have HAll:=Lib.hid hall;have HBr:=Lib.hid hBr;clear hall
   by_cases hlt:j<k.length
   ·have hlt2:j<l.length:=by have:=HLen.out;omega
    obtain ⟨b,o,rfl,hbl,hc⟩:=fm_at (hl.below hBr) (by omega)
    obtain ⟨b',o',rfl,hbl',hc'⟩:=fm_at (hk.below hBr) (by omega)
    obtain ⟨p0,p1⟩:=hc j hlt2;obtain ⟨q0,q1⟩:=hc' j hlt;have HE:=Lib.hid (q92 (a:=l[j]) (b:=k[j]));have hjl:(j:Int)<(l.length:Int):=by omega
    have hjk:(j:Int)<(k.length:Int):=by omega
    have hj0:(0:Int)≤(j:Int):=by omega
    have HF:=Lib.hid (show l[j]≠k[j]→r=false from fun h=>by
     rw [HR.out];refine decide_eq_false fun e=>h ?_
     subst e
     rfl)
    have HNx:=Lib.hid (show l[j]=k[j]→∀ i (h1:i<l.length) (h2:i<k.length),i<j+1→l[i]=k[i] from fun e i h1 h2 h3=>by
     by_cases h4:i<j
     ·exact HAll.out i h1 h2 h4
     ·obtain rfl:i=j:=by omega
      exact e)
    generalize hx:l[j]=x at *;generalize hy:k[j]=y at *;obtain ⟨xa,xs⟩:=x;obtain ⟨ya,ys⟩:=y;dsimp only at *;have hBw:=Lib.hid (fun n=>q18 HBr.out n)
    clear hc hc' hx hy hBr;rw [HLen.out] at hjl
    by_cases h1:xa=ya
    ·by_cases h2:xs=ys
     ·subst h1 h2
      have HN3:=Lib.hid (HNx.out rfl);clear HNx HF HE;go_wp2_with fail;go_quiet (fail);go_wp2
      go_roundw
      case rel=>exact ⟨j+1,by omega,by go_num,HN3.out,hBw.out _⟩
      case measure=>simp [intOf];omega
     ·have hf:=HF.out (fun e=>h2 (HE.out.1 e).2)
      subst h1;have g2:(xs.toList == ys.toList)=false:=by rw [q1w,decide_eq_false h2]
      clear HNx HF HE HR;subst hf;go_wp2_with fail;go_quiet (fail);go_wp2;go_ret;exact ⟨rfl,hBw.out _⟩
    ·have hf:=HF.out (fun e=>h1 (HE.out.1 e).1)
     have g2:(xa == ya)=false:=by simpa using h1
     clear HNx HF HE HR;subst hf;go_wp2_with fail;go_quiet (fail);go_wp2;go_ret;exact ⟨rfl,hBw.out _⟩
   ·have hf:r=true:=by
     rw [HR.out];refine decide_eq_true (List.ext_getElem HLen.out fun i h1 h2=>HAll.out i h1 h2 (by omega))
    clear HR;subst hf;obtain rfl:j=k.length:=by omega
    go_wp2;go_ret;exact ⟨rfl,HBr.out⟩
 ·have e:decide (l=k)=false:=decide_eq_false fun h=>hlen (by rw [h])
  rw [e];have hl2:((l.length:Int) == (k.length:Int))=false:=by rw [beq_eq_false_iff_ne];omega
  clear e
  go_enter func17,ntmps17
  go_wp2;go_ret;exact ⟨rfl,hB⟩
set_option maxRecDepth 100000 in
theorem qty (A B:Option Addr) (n m c d:Nat) (l k:List Fm) (w:World) (hl:shFm.In w A n l) (hk:shFm.In w B m k) (hn:n≤9223372036854775807) (hm:m≤9223372036854775807) :
  Calls prog 72 #[.slice A n c,.slice B m d] w fun e w'=>e=.returned (.bool (decide (l=k)))∧Below w.heap.size w w':=by
 obtain ⟨rfl,_⟩:=id hl;obtain ⟨rfl,_⟩:=id hk;have hB:=Below.refl w.heap.size w
 by_cases hlen:l.length=k.length
 ·obtain ⟨r,hr⟩:∃ r,r=decide (l=k):=⟨_,rfl⟩
  rw [← hr];have HR:=Lib.hid hr;have HLen:=Lib.hid hlen;have hl2:((l.length:Int) == (k.length:Int))=true:=by rw [beq_iff_eq];omega
  have HN:=Lib.hid hn;clear hr hB;rw [hlen] at hn ⊢;clear hlen hl2
  go_enter func72,ntmps72
  go_wp2
  go_loopw [13] (fun iv wr=>∃ j:Nat,j≤k.length∧iv=.int .i64 j∧(∀ i (h1:i<l.length) (h2:i<k.length),i<j→l[i]=k[i])∧Below w.heap.size w wr) (fun iv _=>k.length-(intOf iv).toNat)
  case atStart=>exact ⟨0,Nat.zero_le _,rfl,fun _ _ _ h=>absurd h (by omega),Below.refl _ _⟩
  case round =>
   obtain ⟨j,hj,rfl,hall,hBr⟩:=hrel;have HAll:=Lib.hid hall;have HBr:=Lib.hid hBr;clear hall
   by_cases hlt:j<k.length
   ·have hlt2:j<l.length:=by have:=HLen.out;omega
    obtain ⟨b,o,rfl,hbl,hc⟩:=fm_at (hl.below hBr) (by omega)
    obtain ⟨b',o',rfl,hbl',hc'⟩:=fm_at (hk.below hBr) (by omega)
    obtain ⟨p0,p1⟩:=hc j hlt2;obtain ⟨q0,q1⟩:=hc' j hlt;have HE:=Lib.hid (q92 (a:=l[j]) (b:=k[j]));have hjl:(j:Int)<(l.length:Int):=by omega
    have hjk:(j:Int)<(k.length:Int):=by omega
    have hj0:(0:Int)≤(j:Int):=by omega
    have HF:=Lib.hid (show l[j]≠k[j]→r=false from fun h=>by
     rw [HR.out];refine decide_eq_false fun e=>h ?_
     subst e
     rfl)
    have HNx:=Lib.hid (show l[j]=k[j]→∀ i (h1:i<l.length) (h2:i<k.length),i<j+1→l[i]=k[i] from fun e i h1 h2 h3=>by
     by_cases h4:i<j
     ·exact HAll.out i h1 h2 h4
     ·obtain rfl:i=j:=by omega
      exact e)
    generalize hx:l[j]=x at *;generalize hy:k[j]=y at *;obtain ⟨xa,xs⟩:=x;obtain ⟨ya,ys⟩:=y;dsimp only at *;have hBw:=Lib.hid (fun n=>q18 HBr.out n)
    clear hc hc' hx hy hBr;rw [HLen.out] at hjl
    by_cases h1:xa=ya
    ·by_cases h2:xs=ys
     ·subst h1 h2
      have HN3:=Lib.hid (HNx.out rfl);clear HNx HF HE;go_wp2_with fail;go_quiet (fail);go_wp2
      go_roundw
      case rel=>exact ⟨j+1,by omega,by go_num,HN3.out,hBw.out _⟩
      case measure=>simp [intOf];omega
     ·have hf:=HF.out (fun e=>h2 (HE.out.1 e).2)
      subst h1;have g2:(xs.toList == ys.toList)=false:=by rw [q1w,decide_eq_false h2]
      clear HNx HF HE HR;subst hf;go_wp2_with fail;go_quiet (fail);go_wp2;go_ret;exact ⟨rfl,hBw.out _⟩
    ·have hf:=HF.out (fun e=>h1 (HE.out.1 e).1)
     have g2:(xa == ya)=false:=by simpa using h1
     clear HNx HF HE HR;subst hf;go_wp2_with fail;go_quiet (fail);go_wp2;go_ret;exact ⟨rfl,hBw.out _⟩
   ·have hf:r=true:=by
     rw [HR.out];refine decide_eq_true (List.ext_getElem HLen.out fun i h1 h2=>HAll.out i h1 h2 (by omega))
    clear HR;subst hf;obtain rfl:j=k.length:=by omega
    go_wp2;go_ret;exact ⟨rfl,HBr.out⟩
 ·have e:decide (l=k)=false:=decide_eq_false fun h=>hlen (by rw [h])
  rw [e];have hl2:((l.length:Int) == (k.length:Int))=false:=by rw [beq_eq_false_iff_ne];omega
  clear e
  go_enter func72,ntmps72
  go_wp2;go_ret;exact ⟨rfl,hB⟩
end

section
open Go.RowKit
theorem qto (A B:Option Addr) (n m c d:Nat) (l k:List Fm) (w:World) (hl:shFm.In w A n l) (hk:shFm.In w B m k) (hn:n≤9223372036854775807) (hm:m≤9223372036854775807) :
  Calls prog 26 #[.slice A n c,.slice B m d] w fun e w'=>e=.returned (.bool (decide (l=k)))∧Below w.heap.size w w':=by
 have hB:=Below.refl w.heap.size w;have HE:=Lib.hid (qty A B n m c d l k w hl hk hn hm);generalize decide (l=k)=q at *;clear hl hk
 go_enter func26,ntmps26
 go_wp2_with fail;refine uq_ HE.out hB ?_;clear hB;intro wk hB;go_wp2_with fail;go_ret;exact ⟨rfl,hB⟩
end

section
open Go.RowKit
end

end Go.Proofs.YtbfikenbgfnfiaaGreatDoor
