/- Lemmas. -/
import Derived.Test.YtabhjdmmfdfpeaaGreatDoorKUniJ
namespace Go.Proofs.YtabhjdmmfdfpeaaGreatDoor
set_option maxHeartbeats 32000000
open Go.RowKit
theorem q012 {α:Type} {p:α→Bool}:∀ {l:List α} {x:α},x ∈ l→p x=true→¬ idxOf p l<0
 | [],_,h,_=>absurd h (List.not_mem_nil)
 | a :: l,x,h,hx=>by
  rw [idxOf]
  cases ha:p a with
  | true=>rw [if_pos rfl];decide
  | false =>
   rcases List.mem_cons.1 h with rfl | h
   ·rw [hx] at ha;cases ha
   ·have:=q012 h hx
    rw [if_neg Bool.false_ne_true,if_neg this];omega
end Go.Proofs.YtabhjdmmfdfpeaaGreatDoor
