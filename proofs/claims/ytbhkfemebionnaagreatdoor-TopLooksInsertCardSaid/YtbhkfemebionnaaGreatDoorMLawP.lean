/- Lemmas and contracts of functions, joined for the claim: LkSs, LwQ. -/
import Derived.Test.YtbhkfemebionnaaGreatDoorMLoB
import Derived.Test.YtbhkfemebionnaaGreatDoorMFour
import Derived.Test.YtbhkfemebionnaaGreatDoorMPack
namespace Go.Proofs.YtbhkfemebionnaaGreatDoor
open Go.RowKit

end Go.Proofs.YtbhkfemebionnaaGreatDoor

namespace Go.Proofs.YtbhkfemebionnaaGreatDoor
open Go.RowKit

theorem vs_setC : ∀ (l : List Cu) (k : Nat) (_ : k < l.length) (v : Cu), (((((((((shCu.vs l).set (k * 9) (.string v.num)).set (k * 9 + 1) (.string v.lab)).set (k * 9 + 2) (.slice v.MA v.mn v.mc)).set (k * 9 + 3) (.slice v.PA v.pn v.pc)).set (k * 9 + 4) (.bool v.blk)).set (k * 9 + 5) (.bool v.mrk)).set (k * 9 + 6) (.int .i64 v.fol)).set (k * 9 + 7) (.string v.lnk)).set (k * 9 + 8) (.int .i64 v.lps) = shCu.vs (l.set k v)
  | a :: t, 0, _, _ => rfl
  | a :: t, k + 1, h, v => by
    have ih := vs_setC t k (by simpa using h) v
    show (((((((((Value.string a.num :: .string a.lab :: .slice a.MA a.mn a.mc :: .slice a.PA a.pn a.pc :: .bool a.blk :: .bool a.mrk :: .int .i64 a.fol :: .string a.lnk :: .int .i64 a.lps :: shCu.vs t).set ((k + 1) * 9) _).set ((k + 1) * 9 + 1) _).set ((k + 1) * 9 + 2) _).set ((k + 1) * 9 + 3) _).set ((k + 1) * 9 + 4) _).set ((k + 1) * 9 + 5) _).set ((k + 1) * 9 + 6) _).set ((k + 1) * 9 + 7) _).set ((k + 1) * 9 + 8) _ = Value.string a.num :: .string a.lab :: .slice a.MA a.mn a.mc :: .slice a.PA a.pn a.pc :: .bool a.blk :: .bool a.mrk :: .int .i64 a.fol :: .string a.lnk :: .int .i64 a.lps :: shCu.vs (t.set k v)
    rw [show (k + 1) * 9 = k * 9 + 1 + 1 + 1 + 1 + 1 + 1 + 1 + 1 + 1 by omega, show k * 9 + 1 + 1 + 1 + 1 + 1 + 1 + 1 + 1 + 1 + 2 = k * 9 + 2 + 1 + 1 + 1 + 1 + 1 + 1 + 1 + 1 + 1 by omega, show k * 9 + 1 + 1 + 1 + 1 + 1 + 1 + 1 + 1 + 1 + 3 = k * 9 + 3 + 1 + 1 + 1 + 1 + 1 + 1 + 1 + 1 + 1 by omega, show k * 9 + 1 + 1 + 1 + 1 + 1 + 1 + 1 + 1 + 1 + 4 = k * 9 + 4 + 1 + 1 + 1 + 1 + 1 + 1 + 1 + 1 + 1 by omega, show k * 9 + 1 + 1 + 1 + 1 + 1 + 1 + 1 + 1 + 1 + 5 = k * 9 + 5 + 1 + 1 + 1 + 1 + 1 + 1 + 1 + 1 + 1 by omega, show k * 9 + 1 + 1 + 1 + 1 + 1 + 1 + 1 + 1 + 1 + 6 = k * 9 + 6 + 1 + 1 + 1 + 1 + 1 + 1 + 1 + 1 + 1 by omega, show k * 9 + 1 + 1 + 1 + 1 + 1 + 1 + 1 + 1 + 1 + 7 = k * 9 + 7 + 1 + 1 + 1 + 1 + 1 + 1 + 1 + 1 + 1 by omega, show k * 9 + 1 + 1 + 1 + 1 + 1 + 1 + 1 + 1 + 1 + 8 = k * 9 + 8 + 1 + 1 + 1 + 1 + 1 + 1 + 1 + 1 + 1 by omega]
    simp only [List.set_cons_succ]
    rw [ih]
theorem cu_cells (l : List Cu) (k : Nat) (hk : k < l.length) (j : Nat) (u : Value) (hj : j < 9) (hu : (l[k].cells)[j]? = some u) : (shCu.vs l)[k * 9 + j]? = some u :=
  (shCu.vs_at l k hk j hj).trans hu

end Go.Proofs.YtbhkfemebionnaaGreatDoor
