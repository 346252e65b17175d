/- Lemmas and contracts of functions, joined for the claim: VRef, VByte, VSplit. -/
import Derived.Test.YtppehllccdjfkaaGreatDoorGLevA
import Derived.Laws.BitsLemmas
namespace Go.Proofs.YtppehllccdjfkaaGreatDoor
open Go.RowKit

end Go.Proofs.YtppehllccdjfkaaGreatDoor

namespace Go.Proofs.YtppehllccdjfkaaGreatDoor
open Go.RowKit

structure PctW (s u d : ByteArray) : Prop where
  hu : u.data.toList = wholeT s.data.toList
  hd : d.data.toList = restT s.data.toList
end Go.Proofs.YtppehllccdjfkaaGreatDoor

namespace Go.Proofs.YtppehllccdjfkaaGreatDoor
open Go.RowKit

theorem wraps_i64s (n : Int) (h₀ : 0 ≤ n) (h₁ : n < 2 ^ 16) : IntKind.i64.wrap n = n := by rw [IntKind.wrap_i64]; omega
theorem and255 {x : Int} (h0 : 0 ≤ x) (h1 : x ≤ 65535) : bits .and .i64 x 255 = x % 256 := bits_mask .i64 16 (by decide) wraps_i64s 8 (by decide) x h0 (by omega)
set_option maxHeartbeats 1000000 in
theorem rlis_any (v : Int) (w : World) :
    Calls Tryz.prog 130 #[.int .i64 v] w fun e w' => e = .returned (.bool (decide (0 ≤ v ∧ v ≤ 65535))) ∧ w = w' := by
  by_cases h0 : 0 ≤ v
  · by_cases h1 : v ≤ 65535
    · rw [decide_eq_true ⟨h0, h1⟩]
      go_enter Tryz.func130, Tryz.ntmps130
      go_wp2
      go_ret
      exact ⟨rfl, rfl⟩
    · rw [decide_eq_false (fun h => h1 h.2)]
      go_enter Tryz.func130, Tryz.ntmps130
      go_wp2
      go_ret
      exact ⟨rfl, rfl⟩
  · rw [decide_eq_false (fun h => h0 h.1)]
    go_enter Tryz.func130, Tryz.ntmps130
    go_wp2
    go_ret
    exact ⟨rfl, rfl⟩
end Go.Proofs.YtppehllccdjfkaaGreatDoor
