/- Lemmas. -/
import Derived.Test.YtabhjdmmfdfpeaaGreatDoorKUniB
namespace Go.Proofs.YtabhjdmmfdfpeaaGreatDoor
set_option maxHeartbeats 32000000
open _root_.Go.Proofs.Tryz
open Go.RowKit
theorem idxA {α:Type} {p:α→Bool}:∀ {l:List α},0≤idxOf p l↔l.any p=true
 | []=>by unfold idxOf;simp
 | a :: l=>by
  have ih:=idxA (p:=p) (l:=l);rw [idxOf,List.any_cons]
  cases ha:p a with
  | true=>simp
  | false =>
   rw [if_neg Bool.false_ne_true,Bool.false_or,← ih]
   by_cases h2:idxOf p l<0
   ·rw [if_pos h2];constructor <;> intro h3 <;> omega
   ·rw [if_neg h2];constructor <;> intro h3 <;> omega
theorem q0cb (A:Option Addr) (n c:Nat) (l:List Int) (v:Int) (w:World) (hl:Is w A n l) (hn:n≤9223372036854775806) :
  Rt 36 #[.slice A n c,.int .i64 v] w (.int .i64 (idxOf (fun x=>decide (x=v)) l)):=by
 obtain ⟨rfl,_⟩:=id hl;have HL:=hj_ hl;obtain ⟨E,hE⟩:=ex_ (idxOf (fun x=>decide (x=v)) l)
 rw [← hE];have HE:=hj_ hE;clear hl hE
 go_enter func36,ntmps36
 go_wp2_with fail
 go_loopw [8] (fun iv wr=>∃ k:Nat,k≤l.length∧iv=.int .i64 k∧(∀ j (h:j<l.length),j<k→decide (l[j]=v)=false)∧Below w.heap.size w wr) (fun iv _=>l.length-(intOf iv).toNat)
 case atStart=>exact ⟨0,Nat.zero_le _,rfl,fun j _ h=>absurd h (Nat.not_lt_zero _),br_⟩
 case round =>
  obtain ⟨k,hk,rfl,hall,hBr⟩:=hrel;have HAll:=hj_ hall;clear hall
  by_cases hlt:k<l.length
  ·obtain ⟨b,o,rfl,hbl,hcell⟩:=HL.out.at1 (k:=k) hlt
   have p0:=(hBr.cell (p:=⟨b,o+k,none⟩) hbl).trans hcell;have hbw:b<wr.heap.size:=Nat.lt_of_lt_of_le hbl hBr.size;have HY:=hj_ (show l[k]=v→E=k from fun h=>HE.out.trans (qbd (p:=fun x=>decide (x=v)) hlt (fun i hi=>HAll.out i o_ hi) (decide_eq_true h)))
   have HN:=hj_ (show ¬ l[k]=v→∀ j (h:j<l.length),j<k+1→decide (l[j]=v)=false from fun h j hj hjk=>by
    rcases Nat.lt_or_eq_of_le (Nat.le_of_lt_succ hjk) with h1 | h1
    ·exact HAll.out j hj h1
    ·subst h1;exact decide_eq_false h)
   have i0:(0:Int)≤(k:Int):=o_
   have i1:(k:Int)<(l.length:Int):=o_
   have HBr:=hj_ hBr;have HLt:=hj_ hlt;have w0:IntKind.i64.wrap ((k:Int)+1)=(k:Int)+1:=IntWalk.i64_in _ o_
   clear hcell hBr HAll;generalize l[k]=x at *
   by_cases hx:x=v
   ·have hy:=HY.out hx
    subst hx hy;go_wp2_with fail;go_ret;exact ⟨rfl,HBr.out⟩
   ·have hn2:=HN.out hx
    have HN2:=hj_ hn2;have g1:(v == x)=false:=by rw [beq_eq_false_iff_ne];exact fun e=>hx e.symm
    clear hn2 HN HY;go_wp2_with fail
    go_roundw
    case rel=>exact ⟨k+1,HLt.out,by go_num,HN2.out,HBr.out⟩
    case measure=>simp [intOf];have:=HLt.out;omega
  ·obtain rfl:k=l.length:=by omega
   have he:E=-1:=by
    have h1:=qb9 (p:=fun x=>decide (x=v)) l
    by_cases h2:0≤idxOf (fun x=>decide (x=v)) l
    ·obtain ⟨x,hx,hp⟩:=List.any_eq_true.1 (idxA.1 h2)
     obtain ⟨j,hj,rfl⟩:=List.getElem_of_mem hx;rw [HAll.out j hj hj] at hp
     cases hp
    ·have:=HE.out;omega
   subst he;go_wp2_with fail;go_ret;exact ⟨rfl,hBr⟩
end Go.Proofs.YtabhjdmmfdfpeaaGreatDoor
