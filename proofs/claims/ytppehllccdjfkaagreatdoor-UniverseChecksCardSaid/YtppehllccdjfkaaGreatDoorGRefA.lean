/- Lemmas and contracts of functions, joined for the claim: RBody, RCheck, RNum, RCmp, RWords, RText. -/
import Derived.Test.YtppehllccdjfkaaGreatDoorGPlain
import Derived.Test.YtppehllccdjfkaaGreatDoorGWord
import Derived.BigQuiet
import Derived.Deep.QuietTactic
import Derived.Lib.UnsafeStr
namespace Go.Proofs.YtppehllccdjfkaaGreatDoor
open Go.RowKit

theorem bytes_len (s : ByteArray) : s.data.toList.length = s.size := by simp
theorem bs_of {a : ByteArray} {l : BT} (h : a.data.toList = l) : a = ⟨l.toArray⟩ := by
  obtain ⟨⟨x⟩⟩ := a
  simp at h
  rw [h]
theorem bs_eq {a b : ByteArray} (h : a.data.toList = b.data.toList) : a = b := ByteArray.ext (Array.ext' h)
theorem neg_iff (s : ByteArray) (h : 0 < s.size) : negT s.data.toList = true ↔ (s[0].toNat : Int) = 45 := by
  have hh : s.data.toList.head? = some s[0] := by
    rw [List.head?_eq_getElem?, List.getElem?_eq_getElem (by simpa using h)]; rfl
  generalize s[0] = c at *
  cases hl : s.data.toList with
  | nil => rw [hl] at hh; cases hh
  | cons x t =>
    rw [hl] at hh
    injection hh with hh
    subst hh
    constructor
    · intro hn
      by_cases hx : x = 45
      · subst hx; rfl
      · rw [negT_other hx] at hn; cases hn
    · intro hx
      have : x = 45 := UInt8.toNat_inj.1 (by show x.toNat = 45; omega)
      subst this; rfl
theorem is_zero (s : ByteArray) : (s.toList == [48]) = decide (s.data.toList = [48]) := by
  rw [ByteArray.toList_eq, Bool.eq_iff_iff]
  simp

end Go.Proofs.YtppehllccdjfkaaGreatDoor

namespace Go.Proofs.YtppehllccdjfkaaGreatDoor
open Go.RowKit

end Go.Proofs.YtppehllccdjfkaaGreatDoor

namespace Go.Proofs.YtppehllccdjfkaaGreatDoor
open Go.RowKit

end Go.Proofs.YtppehllccdjfkaaGreatDoor

namespace Go.Proofs.YtppehllccdjfkaaGreatDoor
open Go.RowKit

end Go.Proofs.YtppehllccdjfkaaGreatDoor

namespace Go.Proofs.YtppehllccdjfkaaGreatDoor
open Go.RowKit

def nv (l : List Nat) : List Value := l.map fun (x : Nat) => Value.int .i64 (x : Int)
def Ns (w : World) (A : Option Addr) (n : Nat) (l : List Nat) : Prop := n = l.length ∧ Sl w 1 A n (nv l)
theorem Ns.below {w w' : World} {A : Option Addr} {n : Nat} {l : List Nat} (h : Ns w A n l) (hb : Below w.heap.size w w') : Ns w' A n l := ⟨h.1, h.2.below hb⟩
theorem Ns.at1 {w : World} {A : Option Addr} {n : Nat} {l : List Nat} (h : Ns w A n l) {k : Nat} (hk : k < l.length) :
    ∃ b o, A = some ⟨b, o, none⟩ ∧ b < w.heap.size ∧ w.cell? ⟨b, o + k, none⟩ = some (.int .i64 (l[k] : Int)) := by
  obtain ⟨b, o, e, hb, hc⟩ := h.2.2 (by have := h.1; omega)
  exact ⟨b, o, e, hb, hc k _ (by simp [nv, hk])⟩
theorem Ns.of_own {w : World} {base : Nat} {e : TypeId} {A : Option Addr} {n c : Nat} {l : List Nat} (h : w.ownsRow base e 1 (.slice A n c) n (nv l)) (hn : n = l.length) : Ns w A n l := ⟨hn, Sl.of_own h⟩
end Go.Proofs.YtppehllccdjfkaaGreatDoor

namespace Go.Proofs.YtppehllccdjfkaaGreatDoor
open Go.RowKit

end Go.Proofs.YtppehllccdjfkaaGreatDoor
