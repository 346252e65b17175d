/- Lemmas. -/
import Derived.Test.YtabhjdmmfdfpeaaGreatDoorKUniE
namespace Go.Proofs.YtabhjdmmfdfpeaaGreatDoor
set_option maxHeartbeats 32000000
open Go.RowKit
theorem qba {α:Type} {p:α→Bool}:∀ {l:List α} {k:Nat} (hk:k<l.length),idxOf p l=k→p l[k]=true
 | x :: l,0,_,h=>by
  rw [idxOf] at h
  cases hx:p x with
  | true=>exact hx
  | false =>
   rw [hx] at h;simp only [Bool.false_eq_true,if_false] at h
   by_cases h2:idxOf p l<0
   ·rw [if_pos h2] at h;omega
   ·rw [if_neg h2] at h;omega
 | x :: l,k+1,hk,h=>by
  rw [idxOf] at h
  cases hx:p x with
  | true=>rw [hx] at h;simp only [if_true] at h;omega
  | false =>
   rw [hx] at h;simp only [Bool.false_eq_true,if_false] at h
   by_cases h2:idxOf p l<0
   ·rw [if_pos h2] at h;omega
   ·rw [if_neg h2] at h
    exact qba (l:=l) (k:=k) (by simpa using hk) o_
end Go.Proofs.YtabhjdmmfdfpeaaGreatDoor
