/- Lemmas and contracts of functions, joined for the claim: UFrG, PrCap, UPlainD, UUses, UDep1, UDel, UDel2. -/
import Derived.Test.YtbfikenbgfnfiaaGreatDoorKProE
import Derived.Test.YtbfikenbgfnfiaaGreatDoorKUniI
import Derived.Test.YtbfikenbgfnfiaaGreatDoorKUniA
import Derived.Deep.RegionLaw
import Derived.Lib.SliceRun
import Derived.Test.YtbfikenbgfnfiaaGreatDoorKTake
import Derived.Test.YtbfikenbgfnfiaaGreatDoorKUniG
import Derived.Test.YtbfikenbgfnfiaaGreatDoorKUniB
import Derived.Test.YtbfikenbgfnfiaaGreatDoorKUniF
import Derived.Deep.RegionHeld3
import Derived.Test.YtbfikenbgfnfiaaGreatDoorKUniE
import Derived.Test.YtbfikenbgfnfiaaGreatDoorKUniD
namespace Go.Proofs.YtbfikenbgfnfiaaGreatDoor
set_option maxHeartbeats 32000000
open _root_.Go.Proofs.Tryz

section
open Go.RowKit
theorem qft {w:World} {base sz k n c:Nat} {e:TypeId} {A:Option Addr} {xs:List Value} (h:w.ownsRow base e sz (.slice A n c) k xs):n≤c∧c≤9223372036854775807:=by
 obtain ⟨_,⟨h1,_⟩ | ⟨g,cap,cur,h1,_,_,h2,h3,_⟩⟩:=h
 ·cases h1;exact ⟨Nat.le_refl _,Nat.zero_le _⟩
 ·cases h1;exact ⟨h2,h3⟩
end

section
open Go.RowKit
end

section
open Go.RowKit
theorem infoAm:(prog.info? 46).map (fun i=>(i.zero,i.size,i.bytes))=some (some (.agg #[.int .i64 0,.int .i64 0,.string ⟨#[]⟩]),3,32):=by kernel_rfl
end

section
open Go.RowKit
end

section
open Go.RowKit
end

section
open Go.RowKit
end

section
open Go.RowKit
theorem q00r {L:List (List PT)} {PL:List (PC × List Fea)} {X:List Fx} {l:List Am} (hu:uniE L PL X=0) (hg:givE l=0):frE L PL X l=0∧frV L PL X l=frmG (usedU X) (pageV L l PL X) 8∧RgL (frV L PL X l)∧(frV L PL X l).length≤8:=by
 have hE:frE L PL X l=0:=by unfold frE;rw [if_neg (fun h=>h hu),hg]
 have hV:frV L PL X l=frmG (usedU X) (pageV L l PL X) 8:=by unfold frV;rw [if_neg (fun h=>h hE)]
 refine ⟨hE,hV,?_,?_⟩
 ·rw [hV];exact (q9l _ _ (fun u=>qg7 L l PL u X) 8 (Nat.le_refl _)).1
 ·rw [hV];exact q9k _ _ 8
end

end Go.Proofs.YtbfikenbgfnfiaaGreatDoor
