/- Lemmas. -/
import Derived.Test.YtmcbkdlfhffphaaGreatDoorMUniF
import Derived.Test.YtmcbkdlfhffphaaGreatDoorMUniG
namespace Go.Proofs.YtmcbkdlfhffphaaGreatDoor
set_option maxHeartbeats 32000000

section
open Go.RowKit
end

section
open Go.RowKit
end

section
open Go.RowKit
theorem qmd {l:List Fm} (h:RgL l) (hl:l.length≤8):rightE l=0:=by
 unfold rightE;rw [if_neg (by omega)]
 refine q86 fun i hi=>?_
 have h1:=h.2 _ (List.getElem_mem hi);unfold rgE;rw [qa1 hi,if_neg (by omega),if_neg (by omega),if_neg]
 rintro ⟨h2,h3⟩;rw [qa1 (by omega)] at h3
 have:=List.pairwise_iff_getElem.1 h.1 (i-1) i (by omega) hi (by omega)
 omega
theorem q9l (used:Int→Bool) (c:Int→List UInt8) (hc:∀ u,(c u).length=512):∀ n,n≤8→RgL (frmG used c n)∧∀ x ∈ frmG used c n,x.un≤(n:Int)
 | 0,_=>⟨⟨List.Pairwise.nil,fun x hx=>absurd hx (List.not_mem_nil)⟩,fun x hx=>absurd hx (List.not_mem_nil)⟩
 | n+1,h=>by
  obtain ⟨⟨h1,h2⟩,h3⟩:=q9l used c hc n (by omega)
  rw [frmG]
  cases used ((n:Int)+1) with
  | false =>
   simp only [Bool.false_eq_true,if_false,List.append_nil];exact ⟨⟨h1,h2⟩,fun x hx=>by have:=h3 x hx;omega⟩
  | true =>
   simp only [if_true];refine ⟨⟨?_,?_⟩,?_⟩
   ·rw [List.pairwise_append]
    refine ⟨h1,List.pairwise_singleton _ _,fun x hx y hy=>?_⟩
    rw [List.mem_singleton] at hy;subst hy
    have:=h3 x hx
    show x.un<(n:Int)+1
    omega
   ·intro x hx
    rcases List.mem_append.1 hx with hx | hx
    ·exact h2 x hx
    ·rw [List.mem_singleton] at hx
     subst hx;refine ⟨?_,?_,?_⟩
     ·show 1≤(n:Int)+1;omega
     ·show (n:Int)+1≤8;omega
     ·show (c ((n:Int)+1)).toArray.size=512
      rw [List.size_toArray,hc]
   ·intro x hx
    rcases List.mem_append.1 hx with hx | hx
    ·have:=h3 x hx;omega
    ·rw [List.mem_singleton] at hx
     subst hx;show (n:Int)+1≤((n+1:Nat):Int)
     omega
end

end Go.Proofs.YtmcbkdlfhffphaaGreatDoor
