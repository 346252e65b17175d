/- A slice of ints opened, for the rows of the laws that take one. -/
import Derived.Test.YteaofninjbhiaaaDoorFrame
namespace Go.Proofs.YteaofninjbhiaaaDoor
open Go.ChangeShapes Go.WideShapes Go.ChangeAt Go.RowKit Go.Deep

theorem open_channels {H : Type} {enc : TypeId × Value → H} {w : World} {base : Nat} {spare : Nat → Bool} {held : Bool} {fuel : Nat} {A : Option Addr} {n c : Nat} {x : DataW H × List MemPlace}
    (h : DataW.trod enc Tryd.prog w base spare held fuel 54 [.slice A n c] = some x) : (∃ l, Is w A n l) ∧ n ≤ maxLen := by
  rcases open_ints Tryd.underlying54 Tryd.underlying3 cellsI h with ⟨hcs, _⟩ | ⟨a, l, c', zs, hcs, _, hl, hm, hz, _, hcell, _⟩
  · simp at hcs
    obtain ⟨rfl, rfl, rfl⟩ := hcs
    exact ⟨⟨[], rfl, Sl.nil _ _ _⟩, by simp⟩
  · simp at hcs
    obtain ⟨rfl, rfl, rfl⟩ := hcs
    have hz' : n ≤ zs.length := by rw [hz]; split <;> omega
    refine ⟨⟨zs.take n, by simp; omega, by simp [iv]; omega, fun hn => ?_⟩, by omega⟩
    obtain ⟨b, o, sp⟩ := a
    have h0 := hcell 0 (by omega)
    have hsp : sp = none := by simpa [Addr.add] using World.cell?_spot h0
    subst hsp
    have hadd : ∀ j, ((⟨b, o, none⟩ : Addr).add j) = ⟨b, o + j, none⟩ := fun j => by unfold Addr.add; split <;> simp_all
    refine ⟨b, o, rfl, block_lt_of_cell (a := ⟨b, o + 0, none⟩) (by rw [← hadd]; exact h0), fun j u hu => ?_⟩
    have hj : j < (zs.take n).length := by have := (List.getElem?_eq_some_iff.1 hu).1; simpa [iv] using this
    rw [List.length_take] at hj
    have hc := hcell j (by omega)
    rw [hadd] at hc
    rw [hc, ← hu]
    have hjz : j < zs.length := by omega
    have hjn : j < n := by omega
    simp [iv, hjz, hjn, List.getD]
end Go.Proofs.YteaofninjbhiaaaDoor
