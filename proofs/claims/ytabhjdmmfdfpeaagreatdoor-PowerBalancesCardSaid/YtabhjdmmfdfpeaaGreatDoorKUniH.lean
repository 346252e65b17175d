/- Lemmas. -/
import Derived.Test.YtabhjdmmfdfpeaaGreatDoorKUniF
namespace Go.Proofs.YtabhjdmmfdfpeaaGreatDoor
set_option maxHeartbeats 32000000
open Go.RowKit
variable {at_ ch ho:Int}
theorem qsk {l:List Am} (h:∀ i (h:i<l.length),(decide (l[i].ch=ch) && decide (l[i].at_=at_))=false):toldT l ch at_ ho=sR (ho:Rat):=by
 unfold toldT;rw [List.find?_eq_none.2 fun x hx=>by
  obtain ⟨i,hi,rfl⟩:=List.getElem_of_mem hx;rw [h i hi];decide]
theorem qsn {l:List Am} {k:Nat} (hk:k<l.length) (h:∀ i (h:i<l.length),i<k→(decide (l[i].ch=ch) && decide (l[i].at_=at_))=false) (hy:(decide (l[k].ch=ch) && decide (l[k].at_=at_))=true):toldT l ch at_ ho=l[k].lev:=by
 unfold toldT;have e:l.find? (fun a=>decide (a.ch=ch) && decide (a.at_=at_))=some l[k]:=by
  rw [List.find?_eq_some_iff_append];refine ⟨hy,l.take k,l.drop (k+1),?_,fun a ha=>?_⟩
  ·rw [← List.drop_eq_getElem_cons hk,List.take_append_drop]
  ·obtain ⟨i,hi,rfl⟩:=List.getElem_of_mem ha
   rw [List.length_take] at hi;rw [List.getElem_take,h i o_ o_]
   rfl
 rw [e]
end Go.Proofs.YtabhjdmmfdfpeaaGreatDoor
