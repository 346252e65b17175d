/- Lemmas. -/
import Derived.Test.YtbfikenbgfnfiaaGreatDoorKUniE
namespace Go.Proofs.YtbfikenbgfnfiaaGreatDoor
set_option maxHeartbeats 32000000
open _root_.Go.Proofs.Tryz

section
open Go.RowKit
theorem qba {α:Type} {p:α→Bool}:∀ {l:List α} {k:Nat} (hk:k<l.length),idxOf p l=k→p l[k]=true
 | x :: l,0,_,h=>by
  rw [idxOf] at h
  cases hx:p x with
  | true=>exact hx
  | false =>
   rw [hx] at h;simp only [Bool.false_eq_true,if_false] at h
   by_cases h2:idxOf p l<0
   ·rw [if_pos h2] at h;omega
   ·rw [if_neg h2] at h;omega
 | x :: l,k+1,hk,h=>by
  rw [idxOf] at h
  cases hx:p x with
  | true=>rw [hx] at h;simp only [if_true] at h;omega
  | false =>
   rw [hx] at h;simp only [Bool.false_eq_true,if_false] at h
   by_cases h2:idxOf p l<0
   ·rw [if_pos h2] at h;omega
   ·rw [if_neg h2] at h
    exact qba (l:=l) (k:=k) (by simpa using hk) (by omega)
def RgL (l:List Fm):Prop:=l.Pairwise (fun f g=>f.un<g.un)∧∀ x ∈ l,1≤x.un∧x.un≤8∧x.sl.size=512
theorem rgL_of {l:List Fm} (h:rightE l=0):RgL l:=by
 refine ⟨?_,fun x hx=>?_⟩
 ·rw [List.pairwise_iff_getElem]
  intro i j hi hj hij
  have:=qmh h hij hj
  rw [qa1 hi,qa1 hj] at this;exact this
 ·obtain ⟨i,hi,rfl⟩:=List.getElem_of_mem hx
  have:=rg_ok ((q9q h).2 i hi)
  rw [qa1 hi] at this;exact ⟨this.1,this.2.1,this.2.2.1⟩
end

section
open Go.RowKit
theorem qnb (A:Option Addr) (n c:Nat) (P:List Fm) (u:Int) (w:World) (hl:shFm.In w A n P) (hn:n≤9223372036854775806) :
  Calls prog 89 #[.slice A n c,.int .i64 u] w fun e w'=>e=.returned (.int .i64 (plI P u))∧Below w.heap.size w w':=by
 obtain ⟨rfl,_⟩:=id hl;have HL:=hj_ hl;obtain ⟨E,hE⟩:∃ E,E=plI P u:=⟨_,rfl⟩;rw [← hE];have HE:=hj_ hE;clear hl hE
 go_enter func89,ntmps89
 go_wp2_with fail
 go_loopw [5] (fun iv wr=>∃ k:Nat,k≤P.length∧iv=.int .i64 k∧(∀ j (h:j<P.length),j<k→decide (P[j].un=u)=false)∧Below w.heap.size w wr) (fun iv _=>P.length-(intOf iv).toNat)
 case atStart=>exact ⟨0,Nat.zero_le _,rfl,fun j _ h=>absurd h (Nat.not_lt_zero _),br_⟩
 case round =>
  obtain ⟨k,hk,rfl,hall,hBr⟩:=hrel;have HAll:=hj_ hall;clear hall
  by_cases hlt:k<P.length
  ·obtain ⟨b,o,rfl,hbl,hcell⟩:=fm_at HL.out (by omega)
   have p0:=(hBr.cell (p:=⟨b,o+k*2,none⟩) hbl).trans (hcell k hlt).1;have hbw:b<wr.heap.size:=Nat.lt_of_lt_of_le hbl hBr.size;have HY:=hj_ (show decide (P[k].un=u)=true→E=k from fun h=>HE.out.trans (qbd hlt (fun i hi=>HAll.out i (by omega) hi) h))
   have HN:=hj_ (qj3 (p:=fun f:Fm=>decide (f.un=u)) hlt HAll.out)
   have i0:(0:Int)≤(k:Int):=by omega
   have i1:(k:Int)<(P.length:Int):=by omega
   have w1:IntKind.i64.wrap ((k:Int)+1)=(k:Int)+1:=IntWalk.i64_in _ (by omega)
   clear hcell;generalize P[k].un=x at *;have hbq:(x == u)=decide (x=u):=by rw [Bool.eq_iff_iff];simp
   cases hd:decide (x=u) with
   | true =>
    rw [hd] at hbq;have hee:E=k:=HY.out hd;subst hee;clear hd HY HN;go_wp2_with fail;go_ret;exact ⟨rfl,hBr⟩
   | false =>
    rw [hd] at hbq;have HN1:=hj_ (HN.out hd);clear hd HY HN;go_wp2_with fail
    go_roundw
    case rel=>exact ⟨k+1,by omega,by go_num,HN1.out,hBr⟩
    case measure=>simp [intOf];omega
  ·obtain rfl:k=P.length:=by omega
   have hE0:E=-1:=HE.out.trans (qbc fun i h=>HAll.out i h h)
   subst hE0;go_wp2_with fail;go_ret;exact ⟨rfl,hBr⟩
end

section
open Go.RowKit
end

section
open Go.RowKit
end

section
open Go.ChangeShapes Go.WideShapes Go.ChangeAt Go.RowKit Go.Deep
section
variable {H:Type} {enc:TypeId × Value→H} {w:World} {base:Nat} {spare:Nat→Bool} {held:Bool}
end
end

section
open Go.RowKit
end

end Go.Proofs.YtbfikenbgfnfiaaGreatDoor
