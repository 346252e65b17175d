/- Lemmas and contracts of functions, joined for the claim: LkCn, LkPa. -/
import Derived.Test.YtbhkfemebionnaaGreatDoorMVal
import Derived.Deep.RegionLaw
import Derived.Lib.SliceRun
import Derived.Test.YtbhkfemebionnaaGreatDoorMPmB
import Derived.Test.YtbhkfemebionnaaGreatDoorMFour
import Derived.WalkMore
namespace Go.Proofs.YtbhkfemebionnaaGreatDoor
open Go.RowKit

theorem infoCu : (Tryz.prog.info? 34).map (fun i => (i.zero, i.size, i.bytes)) = some (some (.agg #[.string ⟨#[]⟩, .string ⟨#[]⟩, .slice none 0 0, .slice none 0 0, .bool false, .bool false, .int .i64 0, .string ⟨#[]⟩, .int .i64 0]), 9, 120) := by kernel_rfl
set_option maxRecDepth 100000 in
set_option maxHeartbeats 4000000 in
theorem clone_cus (A : Option Addr) (n c : Nat) (l : List Cu) (w : World) (hl : shCu.In w A n l) (hn : n ≤ 1000) :
    Calls Tryz.prog 8 #[.slice A n c] w fun e w' => ∃ v', e = .returned v' ∧ w'.ownsRow w.heap.size 34 9 v' n (shCu.vs l) ∧ Below w.heap.size w w' := by
  obtain ⟨i0, hi, hz0, hzz1, hz2⟩ := info_parts infoCu
  have q22 : ∀ (w : World) (a : Option Addr) (n c n' c' : Nat), (binOp .eql 22 (.slice a n c) (.slice none n' c')).run Tryz.prog w = .ok (.bool a.isNone) w := fun w a n c n' c' => Lib.run_eql_slice_nil w _ _ a n c n' c' Tryz.underlying22
  cases A with
  | none =>
    obtain rfl : l = [] := by
      match l, hl with
      | [], _ => rfl
      | a :: t, hl => obtain ⟨b, o, e, _⟩ := hl.at_ (by simp); cases e
    obtain ⟨rfl, _⟩ := hl
    clear hi hz0 hzz1 hz2
    go_enter Tryz.func8, Tryz.ntmps8
    go_wp2
    go_ret
    exact ⟨_, rfl, World.ownsRow_nil _ _ _ _, Below.refl _ _⟩
  | some a =>
    have hlen : (shCu.vs l).length = n * 9 := by rw [shCu.vs_length, ← hl.1]; rfl
    have hnews : Hid (∀ j u, (shCu.vs l)[j]? = some u → w.cell? (a.add j) = some u) := Lib.hid (fun j u hu => by
      have hlt : j < (shCu.vs l).length := (List.getElem?_eq_some_iff.1 hu).1
      obtain ⟨b, o, e, hb, hc⟩ := hl.2.2 (by omega)
      injection e with e
      subst e
      have := hc j u hu
      rwa [show ((⟨b, o, none⟩ : Addr).add j) = ⟨b, o + j, none⟩ by unfold Addr.add; split <;> simp_all])
    have hone := shCu.vs_one l
    generalize shCu.vs l = L at *
    clear hl
    go_enter Tryz.func8, Tryz.ntmps8
    go_wp2_with (at_builtin; refine wpList_append_own _ rfl _ _ 22 rfl w.heap.size 34 i0 _ 9 120 Tryz.underlying22 hi hz0 hzz1 hz2 rfl (by decide) _ _ _ rfl (World.ownsRow_made w #[] 0 (Nat.le_refl _) (Nat.zero_le _) (by simp)) a n c L rfl hlen (fun j u hj => Lib.cell?_alloc_some _ (hnews.out j u hj)) hone (by unfold maxLen; omega) (by omega) (by simp) ?_)
    intro v' w1 hown hgrow hnil
    clear hnil
    go_wp2
    go_ret
    refine ⟨v', rfl, by simpa using hown, ?_⟩
    exact ((Below.refl _ w).alloc (Nat.le_refl _) _).grown hgrow (by simp) (by intro k hk; simp [Value.ownBlock] at hk; omega)
end Go.Proofs.YtbhkfemebionnaaGreatDoor

namespace Go.Proofs.YtbhkfemebionnaaGreatDoor
open Go.RowKit

end Go.Proofs.YtbhkfemebionnaaGreatDoor
