/- Contracts of the library's HasPrefix and CutPrefix. -/
import Derived.Test.YteaofninjbhiaaaDoorWords
import Derived.Test.YteaofninjbhiaaaDoorProg
import Derived.Lib.Strings
namespace Go.Proofs.YteaofninjbhiaaaDoor
open Go.RowKit

def preB (s p : ByteArray) : Bool := decide (p.size ≤ s.size) && ((s.extract 0 p.size).toList == p.toList)
set_option maxHeartbeats 400000 in
theorem hasPrefix_any (s p : ByteArray) (w : World) : Calls Tryd.prog 91 #[.string s, .string p] w fun r w' => r = .returned (.bool (preB s p)) ∧ w = w' := by
  by_cases h : p.size ≤ s.size
  · have hz := Lib.hid (show preB s p = ((s.extract 0 p.size).toList == p.toList) from by simp [preB, h])
    go_enter Tryd.func91, Tryd.ntmps91
    go_wp2
    go_ret
    exact ⟨ret_bool hz.out.symm, rfl⟩
  · have hz := Lib.hid (show preB s p = false from by simp [preB, h])
    go_enter Tryd.func91, Tryd.ntmps91
    go_wp2
    go_ret
    exact ⟨ret_bool hz.out.symm, rfl⟩
set_option maxHeartbeats 400000 in
theorem cutPrefix_yes (s p : ByteArray) (w : World) (h : preB s p = true) : Calls Tryd.prog 78 #[.string s, .string p] w fun r w' => r = .returned (.tuple #[.string (s.extract p.size s.size), .bool true]) ∧ w = w' := by
  have h1 : p.size ≤ s.size := by simp [preB] at h; exact h.1
  have H := Lib.hid h
  clear h
  go_enter Tryd.func78, Tryd.ntmps78
  go_wp2_with (first | (go_at_call 91; refine (hasPrefix_any s p _).mono ?_; rw [H.out]; rintro r w1 ⟨rfl, rfl⟩) | go_in)
  go_ret2
  exact ⟨rfl, rfl⟩
set_option maxHeartbeats 400000 in
theorem cutPrefix_no (s p : ByteArray) (w : World) (h : preB s p = false) : Calls Tryd.prog 78 #[.string s, .string p] w fun r w' => r = .returned (.tuple #[.string s, .bool false]) ∧ w = w' := by
  have H := Lib.hid h
  clear h
  go_enter Tryd.func78, Tryd.ntmps78
  go_wp2_with (first | (go_at_call 91; refine (hasPrefix_any s p _).mono ?_; rw [H.out]; rintro r w1 ⟨rfl, rfl⟩) | go_in)
  go_ret2
  exact ⟨rfl, rfl⟩

theorem preB_iff (s p : ByteArray) : preB s p = true ↔ p.data.toList <+: s.data.toList := by
  unfold preB
  rw [ByteArray.toList_eq, ByteArray.toList_eq, Bool.and_eq_true, decide_eq_true_eq, beq_iff_eq]
  have e : (s.extract 0 p.size).data.toList = s.data.toList.take p.size := by simp [ByteArray.data_extract]
  rw [e, List.prefix_iff_eq_take]
  have hp : p.data.toList.length = p.size := by simp
  rw [hp]
  constructor
  · rintro ⟨_, h⟩; exact h.symm
  · intro h
    refine ⟨?_, h.symm⟩
    have := congrArg List.length h
    simp at this
    omega
end Go.Proofs.YteaofninjbhiaaaDoor
