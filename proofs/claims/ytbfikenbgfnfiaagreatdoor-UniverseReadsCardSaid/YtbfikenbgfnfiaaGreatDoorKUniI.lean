/- Lemmas. -/
import Derived.Test.YtbfikenbgfnfiaaGreatDoorKUniF
import Derived.Test.YtbfikenbgfnfiaaGreatDoorKUniG
namespace Go.Proofs.YtbfikenbgfnfiaaGreatDoor
set_option maxHeartbeats 32000000
open _root_.Go.Proofs.Tryz

section
open Go.RowKit
theorem qdg (A0:Option Addr) (n0 d0:Nat) (A1:Option Addr) (n1 d1:Nat) (A2:Option Addr) (n2 d2:Nat) (w:World) :
  Calls prog 12 #[.agg #[.slice A0 n0 d0,.slice A1 n1 d1,.slice A2 n2 d2]] w fun e w'=>e=.returned (.agg #[.slice A0 n0 d0,.slice A1 n1 d1,.slice A2 n2 d2])∧Below w.heap.size w w':=by
 go_enter func12,ntmps12
 go_wp2_with fail
 (try simp only [Exit.inBlock,Exit.then])
 refine bodyPost_ret (v:=.agg #[.slice A0 n0 d0,.slice A1 n1 d1,.slice A2 n2 d2]) ?_ rfl ⟨rfl,((Below.refl _ w).alloc (Nat.le_refl _) _).alloc (by simp) _⟩
 rw [qlt rfl]
 go_simp
end

section
open Go.RowKit
end

section
open Go.RowKit
end

end Go.Proofs.YtbfikenbgfnfiaaGreatDoor
