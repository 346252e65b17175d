/- Lemmas. -/
import Derived.Test.YtmcbkdlfhffphaaGreatDoorMUniE
namespace Go.Proofs.YtmcbkdlfhffphaaGreatDoor
set_option maxHeartbeats 32000000

section
open Go.RowKit
theorem qba {α:Type} {p:α→Bool}:∀ {l:List α} {k:Nat} (hk:k<l.length),idxOf p l=k→p l[k]=true
 | x :: l,0,_,h=>by
  rw [idxOf] at h
  cases hx:p x with
  | true=>exact hx
  | false =>
   rw [hx] at h;simp only [Bool.false_eq_true,if_false] at h
   by_cases h2:idxOf p l<0
   ·rw [if_pos h2] at h;omega
   ·rw [if_neg h2] at h;omega
 | x :: l,k+1,hk,h=>by
  rw [idxOf] at h
  cases hx:p x with
  | true=>rw [hx] at h;simp only [if_true] at h;omega
  | false =>
   rw [hx] at h;simp only [Bool.false_eq_true,if_false] at h
   by_cases h2:idxOf p l<0
   ·rw [if_pos h2] at h;omega
   ·rw [if_neg h2] at h
    exact qba (l:=l) (k:=k) (by simpa using hk) (by omega)
def RgL (l:List Fm):Prop:=l.Pairwise (fun f g=>f.un<g.un)∧∀ x ∈ l,1≤x.un∧x.un≤8∧x.sl.size=512
theorem rgL_of {l:List Fm} (h:rightE l=0):RgL l:=by
 refine ⟨?_,fun x hx=>?_⟩
 ·rw [List.pairwise_iff_getElem]
  intro i j hi hj hij
  have:=qmh h hij hj
  rw [qa1 hi,qa1 hj] at this;exact this
 ·obtain ⟨i,hi,rfl⟩:=List.getElem_of_mem hx
  have:=rg_ok ((q9q h).2 i hi)
  rw [qa1 hi] at this;exact ⟨this.1,this.2.1,this.2.2.1⟩
end

section
open Go.RowKit
end

section
open Go.RowKit
end

section
open Go.RowKit
end

section
open Go.ChangeShapes Go.WideShapes Go.ChangeAt Go.RowKit Go.Deep
section
variable {H:Type} {enc:TypeId × Value→H} {w:World} {base:Nat} {spare:Nat→Bool} {held:Bool}
end
end

section
open Go.RowKit
end

end Go.Proofs.YtmcbkdlfhffphaaGreatDoor
