/- Lemmas and contracts of functions, joined for the claim: UFrG, PrCap, UPlainD, UUses, UDep1, UDel, UDel2. -/
import Derived.Test.YtbfikenbgfnfiaaGreatDoorMProE
import Derived.Test.YtbfikenbgfnfiaaGreatDoorTUniI
import Derived.Test.YtbfikenbgfnfiaaGreatDoorTUniA
import Derived.Deep.RegionLaw
import Derived.Lib.SliceRun
import Derived.Test.YtbfikenbgfnfiaaGreatDoorMTake
import Derived.Test.YtbfikenbgfnfiaaGreatDoorTUniG
import Derived.Test.YtbfikenbgfnfiaaGreatDoorTUniB
import Derived.Test.YtbfikenbgfnfiaaGreatDoorTUniF
import Derived.Deep.RegionHeld3
import Derived.Test.YtbfikenbgfnfiaaGreatDoorTUniE
import Derived.Test.YtbfikenbgfnfiaaGreatDoorTUniD
namespace Go.Proofs.YtbfikenbgfnfiaaGreatDoor
set_option maxHeartbeats 32000000
open _root_.Go.Proofs.Tryz

section
open Go.RowKit
theorem qft {w:World} {base sz k n c:Nat} {e:TypeId} {A:Option Addr} {xs:List Value} (h:w.ownsRow base e sz (.slice A n c) k xs):n≤c∧c≤9223372036854775807:=by
 obtain ⟨_,⟨h1,_⟩ | ⟨g,cap,cur,h1,_,_,h2,h3,_⟩⟩:=h
 ·cases h1;exact ⟨Nat.le_refl _,Nat.zero_le _⟩
 ·cases h1;exact ⟨h2,h3⟩
end

section
open Go.RowKit
def FitX (PL:List (PC × List Fea)) (x:Fx):Prop:=1≤x.ad∧∀ f ∈ featV PL x.pr,(0≤f.co∧f.co<footV (PL.map Prod.fst) x.pr)∧(f.bits=8∨f.bits=16)∧(f.bits=16→0≤f.fi∧f.fi<footV (PL.map Prod.fst) x.pr)
theorem fit_of {L:List (List PT)} {PL:List (PC × List Fea)} {X:List Fx} (hu:uniE L PL X=0):∀ x ∈ X,FitX PL x:=by
 obtain ⟨-,-,hFx,hFe⟩:=qu8 hu;intro x hx;obtain ⟨i,hi,rfl⟩:=List.getElem_of_mem hx;obtain ⟨hrn,-,-,p,hp⟩:=hFx i hi;refine ⟨?_,?_⟩
 ·unfold qkt at hrn
  simp only [Bool.and_eq_true,decide_eq_true_eq] at hrn;exact hrn.1.2.1
 ·have hpf:=q83 PL X[i].pr
  rw [hp] at hpf;intro f hf;unfold featV at hf
  cases hq:PL.find? (fun x=>decide (x.1.s=X[i].pr)) with
  | none=>rw [hq] at hf;exact absurd hf (List.not_mem_nil)
  | some y =>
   rw [hq] at hf hpf
   injection hpf with hpf
   have hft:footV (PL.map Prod.fst) X[i].pr=y.1.ft:=by unfold footV;rw [hp,hpf]
   have hg:=hFe y (List.mem_of_find?_eq_some hq) f hf;rw [hft];exact ⟨hg.2.1,(q0g hg.1).2.1,hg.2.2⟩
theorem q9m (used:Int→Bool) (c:Int→List UInt8):∀ n,∀ x ∈ frmG used c n,x.sl=⟨(c x.un).toArray⟩
 | 0,x,h=>absurd h (List.not_mem_nil)
 | n+1,x,h=>by
  rw [frmG] at h
  rcases List.mem_append.1 h with h | h
  ·exact q9m used c n x h
  ·cases hu:used ((n:Int)+1) with
   | false=>rw [hu] at h;simp at h
   | true =>
    rw [hu,if_pos rfl,List.mem_singleton] at h;subst h
    rfl
end

section
open Go.RowKit
theorem infoAm:(prog.info? 46).map (fun i=>(i.zero,i.size,i.bytes))=some (some (.agg #[.int .i64 0,.int .i64 0,.string ⟨#[]⟩]),3,32):=by kernel_rfl
end

section
open Go.RowKit
end

section
open Go.RowKit
end

section
open Go.RowKit
end

section
open Go.RowKit
theorem q00r {L:List (List PT)} {PL:List (PC × List Fea)} {X:List Fx} {l:List Am} (hu:uniE L PL X=0) (hg:givE l=0):frE L PL X l=0∧frV L PL X l=frmG (usedU X) (pageV L l PL X) 8∧RgL (frV L PL X l)∧(frV L PL X l).length≤8:=by
 have hE:frE L PL X l=0:=by unfold frE;rw [if_neg (fun h=>h hu),hg]
 have hV:frV L PL X l=frmG (usedU X) (pageV L l PL X) 8:=by unfold frV;rw [if_neg (fun h=>h hE)]
 refine ⟨hE,hV,?_,?_⟩
 ·rw [hV];exact (q9l _ _ (fun u=>qg7 L l PL u X) 8 (Nat.le_refl _)).1
 ·rw [hV];exact q9k _ _ 8
end

end Go.Proofs.YtbfikenbgfnfiaaGreatDoor
