/- Lemmas and contracts of functions, joined for the claim: OpenA. -/
import Derived.Test.YtpinmgoeapakdaaGreatDoorGOpen
import Derived.Laws.IdiomArrays
namespace Go.Proofs.YtpinmgoeapakdaaGreatDoor
open Go.ChangeShapes Go.WideShapes Go.ChangeAt Go.RowKit Go.Deep

section
variable {H : Type} {enc : TypeId × Value → H} {w : World} {base : Nat} {spare : Nat → Bool} {held : Bool}
set_option maxRecDepth 100000 in
theorem arr_open {t e : TypeId} {n b0 : Nat} (ht : Tryz.prog.underlying t = some (.array n e)) {v : Value} {d : DataW H} {p : List MemPlace} (hv : Value.okWide Tryz.prog w .any b0 t v) (h : DataW.Trod enc Tryz.prog w base spare held t v d p) :
    ∃ (cs : List Value) (fuel : Nat) (x : DataW H × List MemPlace), v = .agg cs.toArray ∧ DataW.trod enc Tryz.prog w base spare held fuel t cs = some x := by
  simp only [Value.okWide, ht] at hv
  obtain ⟨cs, rfl, _⟩ := hv
  obtain ⟨fuel, hf⟩ := h
  exact ⟨cs.toList, fuel, _, rfl, hf⟩
theorem u16_bd {x : Int} (h : (Lit.int .u16 x).wf = true) : 0 ≤ x ∧ x ≤ 65535 := by
  simpa [Lit.wf, IntKind.min, IntKind.max, IntKind.bits, IntKind.signed] using h

theorem trod_array2 {P : Program} {t e : TypeId} {fuel : Nat} {cs : List Value} {x : DataW H × List MemPlace} (ht : P.underlying t = some (.array 2 e)) (hce : P.cellsOf e = 1) (hct : P.cellsOf t = 2)
    (h : DataW.trod enc P w base spare held fuel t cs = some x) :
    ∃ c0 c1 y0 y1 n, cs = [c0, c1] ∧ DataW.trod enc P w base spare held n e [c0] = some y0 ∧ DataW.trod enc P w base spare held n e [c1] = some y1 := by
  cases fuel with
  | zero => simp [DataW.trod] at h
  | succ n =>
    unfold DataW.trod at h
    rw [ht] at h
    have r2 : List.range 2 = [0, 1] := rfl
    simp [r2, hce] at h
    obtain ⟨hlen, h⟩ := h
    have h2 : cs.length = 2 := by omega
    obtain ⟨c0, c1, rfl⟩ : ∃ c0 c1, cs = [c0, c1] := by
      rcases cs with _ | ⟨c0, _ | ⟨c1, _ | ⟨c2, cs⟩⟩⟩
      · simp at h2
      · simp at h2
      · exact ⟨_, _, rfl⟩
      · simp at h2
    simp at h
    cases h0 : DataW.trod enc P w base spare held n e [c0] with
    | none => simp [h0] at h
    | some y0 =>
      cases h1 : DataW.trod enc P w base spare held n e [c1] with
      | none => simp [h0, h1] at h
      | some y1 => exact ⟨c0, c1, y0, y1, n, rfl, h0, h1⟩
set_option maxRecDepth 100000 in
theorem two16_cells {fuel : Nat} {cs : List Value} {x : DataW H × List MemPlace} (h : DataW.trod enc Tryz.prog w base spare held fuel 66 cs = some x) : ∃ g : Int × Int, cs = [.int .u16 g.1, .int .u16 g.2] ∧ ((0 ≤ g.1 ∧ g.1 ≤ 65535) ∧ 0 ≤ g.2 ∧ g.2 ≤ 65535) := by
  obtain ⟨c0, c1, y0, y1, n, rfl, h0, h1⟩ := trod_array2 Tryz.underlying66 (by kernel_rfl) (by kernel_rfl) h
  obtain ⟨x0, e0, _, w0⟩ := DataW.trod_int Tryz.underlying65 h0
  obtain ⟨x1, e1, _, w1⟩ := DataW.trod_int Tryz.underlying65 h1
  simp at e0 e1
  subst e0 e1
  exact ⟨(x0, x1), rfl, u16_bd w0, u16_bd w1⟩
end
end Go.Proofs.YtpinmgoeapakdaaGreatDoor
