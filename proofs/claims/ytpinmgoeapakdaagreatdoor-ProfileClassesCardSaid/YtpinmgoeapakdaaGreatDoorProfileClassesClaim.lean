/- ProfileClasses: for every input the law returns true, and its arguments read behind the call as they read before. The package variables that the row lists hold what the program's text lays. -/
import Derived.Test.YtpinmgoeapakdaaGreatDoorGProD
import Derived.Test.YtpinmgoeapakdaaGreatDoorGLaw
import Derived.Test.YtpinmgoeapakdaaGreatDoorFProfileClasses
import Derived.Test.YtpinmgoeapakdaaGreatDoorCards
import Derived.Test.YtpinmgoeapakdaaGreatDoorTie
import Derived.SevenTiedAt
import Derived.SizedLaws
namespace Go.Proofs.YtpinmgoeapakdaaGreatDoor
open Go.RowKit

set_option maxHeartbeats 4000000 in
theorem pclasses_walk (w : World) (a : Int) (ht : Tab w) (hr : Rng w) :
    Calls Tryz.prog 6 #[.int .i64 a] w fun e w' => e = .returned (.bool true) ∧ Below w.heap.size w w' := by
  have hB := Below.refl w.heap.size w
  have HT := Lib.hid ht
  have HRg := Lib.hid hr
  have HAw := Lib.hid (fun w ht hr => pawake_any w ht hr)
  have HC := Lib.hid (fun w => pclass_any a w)
  have HC2 := Lib.hid (fun w => rclass_any a w)
  have HH := Lib.hid (fun w => phighest_any a w)
  clear ht hr
  by_cases h0 : a = 0
  · subst h0
    rw [show classE 0 = 0 from rfl] at HC HC2 HH
    rw [show classV 0 = 0 from rfl] at HC HC2
    rw [show decide ((0 : Int) = 0 ∧ (0 : Int) = 0) = true from rfl] at HH
    go_enter Tryz.func6, Tryz.ntmps6
    go_wp2_with fail
    refine (HC.out _).mono ?_
    rintro e wk ⟨rfl, hb⟩
    replace hB := hB.trans (hb.mono hB.size)
    clear hb
    go_wp2_with fail
    refine (HC2.out _).mono ?_
    rintro e wk ⟨rfl, hb⟩
    replace hB := hB.trans (hb.mono hB.size)
    clear hb
    go_wp2_with fail
    refine (HH.out _).mono ?_
    rintro e wk ⟨rfl, hb⟩
    replace hB := hB.trans (hb.mono hB.size)
    clear hb
    go_wp2_with fail
    refine (HAw.out _ (HT.out.below hB) (HRg.out.below hB)).mono ?_
    rintro e wk ⟨rfl, hb⟩
    replace hB := hB.trans (hb.mono hB.size)
    clear hb
    go_wp2_with fail
    go_ret
    exact ⟨rfl, hB⟩
  · have g0 : (a == 0) = false := by simpa using h0
    rw [show decide (classE a = 0 ∧ a = 0) = false from decide_eq_false (fun h => h0 h.2)] at HH
    generalize classE a = E at *
    generalize classV a = V at *
    clear h0
    by_cases hE : E = 0
    · subst hE
      go_enter Tryz.func6, Tryz.ntmps6
      go_wp2_with fail
      refine (HC.out _).mono ?_
      rintro e wk ⟨rfl, hb⟩
      replace hB := hB.trans (hb.mono hB.size)
      clear hb
      go_wp2_with fail
      refine (HC2.out _).mono ?_
      rintro e wk ⟨rfl, hb⟩
      replace hB := hB.trans (hb.mono hB.size)
      clear hb
      go_wp2_with fail
      refine (HH.out _).mono ?_
      rintro e wk ⟨rfl, hb⟩
      replace hB := hB.trans (hb.mono hB.size)
      clear hb
      go_wp2_with fail
      refine (HAw.out _ (HT.out.below hB) (HRg.out.below hB)).mono ?_
      rintro e wk ⟨rfl, hb⟩
      replace hB := hB.trans (hb.mono hB.size)
      clear hb
      go_wp2_with fail
      go_ret
      exact ⟨rfl, hB⟩
    · have g1 : (E == 0) = false := by simpa using hE
      clear hE
      go_enter Tryz.func6, Tryz.ntmps6
      go_wp2_with fail
      refine (HC.out _).mono ?_
      rintro e wk ⟨rfl, hb⟩
      replace hB := hB.trans (hb.mono hB.size)
      clear hb
      go_wp2_with fail
      refine (HC2.out _).mono ?_
      rintro e wk ⟨rfl, hb⟩
      replace hB := hB.trans (hb.mono hB.size)
      clear hb
      go_wp2_with fail
      refine (HH.out _).mono ?_
      rintro e wk ⟨rfl, hb⟩
      replace hB := hB.trans (hb.mono hB.size)
      clear hb
      go_wp2_with fail
      refine (HAw.out _ (HT.out.below hB) (HRg.out.below hB)).mono ?_
      rintro e wk ⟨rfl, hb⟩
      replace hB := hB.trans (hb.mono hB.size)
      clear hb
      go_wp2_with fail
      go_ret
      exact ⟨rfl, hB⟩
theorem profile_classes (w : World) (x : Int) (_ : (Lit.int .i64 x).wf = true) (hL : Laid w) :
    Calls Tryz.prog 6 #[.int .i64 x] w fun e w' => e = .returned (.bool true) ∧ Below w.heap.size w w' :=
  pclasses_walk w x hL.1 hL.2
end Go.Proofs.YtpinmgoeapakdaaGreatDoor

namespace Go.Proofs.YtpinmgoeapakdaaGreatDoor.profileClassesP
open Go.ChangeShapes Go.ChangeMaps Go.WideShapes Go.ChangeAt Go.RowKit

set_option maxRecDepth 100000 in
theorem lifted (os : Os) (started : os.Started) (H : Type) (enc : TypeId × Value → H) :
    ReturnsInHanded {} Tryz.checked os 6 .any (fun w args => (Rows.profileClassesSpec.pre enc Tryz.prog Tryz.f6 [] false w args ∧ laidMetH Tryz.prog Rows.profileClassesRow.laid w) ∧ sizedMet enc Tryz.prog Tryz.f6 (OpenSpec.ofChange Rows.profileClassesSpec) false w args)
      (Rows.profileClassesSpec.post enc Tryz.prog Tryz.f6 false true false false) := by
  refine returnsInHanded_of_change_and (C := Tryz.checked) (X := fun w _ => laidMetH Tryz.prog Rows.profileClassesRow.laid w) (fun _ _ _ hh h => h.of_heap hh) own_ started (by kernel_rfl) Tryz.func6
    (ChangeSpec.witness_at (enc := enc) (C := Tryz.checked) (os := os) (X := fun w _ => laidMetH Tryz.prog Rows.profileClassesRow.laid w) false (laidWorld os) #[.int .i64 0] 8 rfl (by kernel_rfl) (by kernel_rfl) (by kernel_rfl) (by kernel_rfl) (by kernel_rfl) (laid_met os _)) ?_
  intro W base args ds gs before hval0 hW _ hWt hL _
  have hval : ∀ (j : Nat) t v, Tryz.f6.params[j]? = some t → args[j]? = some v → Value.okWide Tryz.prog W .any base t v := hval0
  have hW' := hW
  obtain ⟨p, q, hA0, hV, rfl, hfz, hnd⟩ := hW
  have hA : DataW.TrodAll enc Tryz.prog W 0 (fun _ => true) true Tryz.f6.params.toList args.toList ds p := hA0
  rw [Tryz.params6] at hA hval hWt
  obtain ⟨v0, vs0, d0, ds0, p0, q0, hargs, rfl, rfl, h0, r0⟩ := trodAll_cons hA
  obtain ⟨rfl, rfl, rfl⟩ := trodAll_nil r0
  obtain rfl : args = #[v0] := by cases args; simp_all
  obtain ⟨rfl, rfl⟩ := trodVars_none hV
  obtain ⟨x0, rfl, rfl, rfl, w0⟩ := open_int Tryz.underlying3 (hval 0 3 v0 rfl rfl) h0
  clear hA0 hval0 hWt
  simp only [List.append_nil] at hW'
  refine (profile_classes W x0 w0 (laid_of hL)).mono fun e W' ⟨he, bel⟩ => ?_
  subst he
  exact ⟨_, rfl, _, _, _, [], _, [], hW', trodAll_mk1 (shut_bool Tryz.underlying4 _), (trodAll_cons_mk (shut_int Tryz.underlying3 w0) trodAll_mk0), rfl, bel.frame _, fun h => by cases h⟩

theorem over : Rows.profileClassesRow.holds Tryz.pinned (OpenSpec.ofChange Rows.profileClassesSpec) :=
  OpenClaim.holds_of_wide 6 Tryz.f6 rfl rfl rfl rfl rfl rfl rfl ⟨rfl, rfl, rfl, rfl, rfl⟩ rfl rfl rfl rfl rfl (by kernel_rfl) Tryz.func6 profileClasses_facts
    (of_decide_eq_true (by kernel_rfl)) (by unfold Func.isWrapper; rw [if_neg (of_decide_eq_false (by kernel_rfl))]; exact ⟨rfl, rfl⟩)
    (fun os started H enc _ => lifted os started H enc)

theorem noStandIn : ∀ t ∈ Tryz.f6.params.toList, Tryz.prog.wantsStandIn t = false := by
  rw [Tryz.params6]
  intro t ht
  simp only [List.mem_cons, List.not_mem_nil, or_false] at ht
  subst ht
  kernel_rfl

theorem proved : Rows.ProfileClassesCardSaid :=
  Claim7.holds_tied_plain_at .later [] [.data, .data, .data, .data, .sentinel, .sentinel, .pinned] true (true, "c3d8ae1918c4f8ff505efee564eec2d4328f310576adbccc116a5ab88642d2ca") true
    over (fun _ h => by cases h) (by kernel_rfl) (fun _ h => by cases h) profileClasses_row_tie rfl ⟨rfl, rfl⟩ (by kernel_rfl) rfl
    (fun f fn hf hfn => by
      obtain rfl : f = 6 := Option.some.inj ((show Tryz.prog.funcNamed "luminaire/luminairelaw10.ProfileClasses" = some 6 by kernel_rfl).symm.trans hf) |>.symm
      obtain rfl : fn = Tryz.f6 := (Option.some.inj (Tryz.func6.symm.trans hfn)).symm
      exact ⟨by kernel_rfl, fun j t ht => noStandIn t (Array.mem_toList_iff.2 (Array.mem_of_getElem? ht))⟩)
    (by kernel_rfl)
#print axioms proved
end Go.Proofs.YtpinmgoeapakdaaGreatDoor.profileClassesP
