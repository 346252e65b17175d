/- Lemmas and contracts of functions, joined for the claim: ZFew, ZAwake, Laid, ZFit. -/
import Derived.Test.YtgnggipjebemeaaDoorRows
import Derived.Test.YtgnggipjebemeaaDoorGProgC
import Derived.ProofKit
import Derived.OpenShut
import Derived.ChangeOld
import Derived.Deep.Slices
import Derived.Deep.Fields
import Derived.ChangeSame
import Derived.ChangeVars
import Derived.ChangeMaps5
import Derived.JoinedOf
import Derived.RowKit
import Derived.RowKitTokens
import Derived.LaidLaws
import Derived.LaidHandle
import Derived.LaidSub
import Derived.Lib.LaidU8
import Derived.Deep.DeepLaidRun
import Derived.Stop.LaidErr
import Derived.Test.YtgnggipjebemeaaDoorGRefB
namespace Go.Proofs.YtgnggipjebemeaaDoor
open Go.ChangeShapes Go.WideShapes Go.ChangeAt Go.RowKit Go.Deep

theorem own_ : ownKnob Tryd.prog.godebug = none := by kernel_rfl
theorem laidOut : laidOutB Tryd.prog = true := by kernel_rfl

def L3 : List (String × DataW Unit) := Rows.integerCommonRow.laid
theorem tabType : (Tryd.prog.globals[1]?).map (·.type) = some 117 := by kernel_rfl
theorem cells20 : Tryd.prog.cellsOf 117 = 20 := by kernel_rfl
theorem cellsU : Tryd.prog.cellsOf 68 = 1 := by kernel_rfl
theorem tabData_eq : (Rows.laid_internal_strconv_uint64pow10 : DataW Unit) = Lib.tabData .u64 Lib.pow10Tab := by kernel_rfl
theorem tab_of_laid {W : World} (h : laidMetH Tryd.prog L3 W) : Tab W := by
  have h1 : laidMet Tryd.prog L3 W := (laidMetH_iff.1 h).1
  obtain ⟨g, t, cs, fuel, p, hg, ht, hv, hd⟩ := Lib.laidMet.reads (n := "internal/strconv.uint64pow10") (d := Rows.laid_internal_strconv_uint64pow10) h1 (.tail _ (.tail _ (.head _)))
  obtain rfl := Option.some.inj (globTab.symm.trans hg)
  obtain rfl := Option.some.inj (tabType.symm.trans ht)
  rw [tabData_eq] at hd
  unfold Tab Lib.TabIs
  rw [hv, ← Lib.cells_of_tab Tryd.underlying117 Tryd.underlying68 cellsU cells20 hd]
theorem rngType : (Tryd.prog.globals[5]?).map (·.type) = some 57 := by kernel_rfl
theorem cellsEs : Tryd.prog.cellsOf 143 = 1 := by kernel_rfl
theorem cellsSt : Tryd.prog.cellsOf 9 = 1 := by kernel_rfl
theorem star_es : "*" ++ "errors.errorString" = "*errors.errorString" := by decide
theorem row_es (u : TypeId) (h : Tryd.prog.typeName? 3 u = some "*errors.errorString") : u = 141 :=
  typeName_ptr_named (nm := "errors.errorString") (by rw [star_es]; kernel_rfl) (by kernel_rfl) (by decide) u (by rw [star_es]; exact h)
theorem rng_of_laid {W : World} (h : laidMetH Tryd.prog L3 W) : Rng W := by
  have h1 : laidMet Tryd.prog L3 W := (laidMetH_iff.1 h).1
  obtain ⟨a0, s0, hv0, -, -, -⟩ := laid_sentinel (n := "strconv.ErrRange") h1.tail.tail.tail.tail globRng rngType Tryd.underlying57 row_es Tryd.underlying141 Tryd.underlying143 rfl rfl Tryd.underlying9 cellsEs cellsSt
  exact ⟨_, _, hv0⟩

def litCells : List (DataW Unit) → List Value
  | .lit (.int k z) :: r => .int k z :: litCells r
  | _ :: r => .int .u8 0 :: litCells r
  | [] => []
def cell1 : DataW Unit → List Value
  | .lit (.int k z) => [.int k z]
  | .agg l => litCells l
  | _ => []
def debits : DataW Unit → List Value
  | .agg l => l.flatMap cell1
  | _ => []

noncomputable def laidWorld (os : Os) : World :=
  let N := (World.settled Tryd.prog os).heap.size
  let w0 := World.holding Tryd.prog os ⟨#[.cells #[.string ⟨[118, 97, 108, 117, 101, 32, 111, 117, 116, 32, 111, 102, 32, 114, 97, 110, 103, 101].toArray⟩] 143, .cells #[.string ⟨[105, 110, 118, 97, 108, 105, 100, 32, 115, 121, 110, 116, 97, 120].toArray⟩] 143], #[], []⟩
  let put (h : Array Obj) (g : Nat) (cs : Array Value) : Array Obj := h.modify g fun
    | .cells _ t frozen => .cells cs t frozen
    | o => o
  let h1 := put w0.heap 6 (debits (Rows.laid_math_bits_deBruijn32tab : DataW Unit)).toArray
  let h2 := put h1 7 (debits (Rows.laid_math_bits_deBruijn64tab : DataW Unit)).toArray
  let h3 := put h2 1 (Lib.pow10Tab.map fun z => Value.int .u64 z).toArray
  let h4 := put h3 3 (debits (Rows.laid_unicode_utf8_acceptRanges : DataW Unit)).toArray
  let h5 := put h4 5 #[.iface 141 (.pointer (some ⟨N + 0, 0, none⟩))]
  let h6 := put h5 4 #[.iface 141 (.pointer (some ⟨N + 1, 0, none⟩))]
  let h7 := put h6 2 (debits (Rows.laid_unicode_utf8_first : DataW Unit)).toArray
  { w0 with heap := h7 }
theorem laid_met (os : Os) (args : Array Value) : laidMetH Tryd.prog L3 ((laidWorld os).forCall (fun _ _ => 0) ⟨#[], args, []⟩).memory :=
  laidMetH_of_parts (laidMet_of_run3 10 (by kernel_rfl) (by kernel_rfl) (by kernel_rfl)) (by kernel_rfl)

def Laid (w : World) : Prop := Tab w ∧ Rng w
theorem laid_of {W : World} (h : laidMetH Tryd.prog L3 W) : Laid W := ⟨tab_of_laid h, rng_of_laid h⟩
end Go.Proofs.YtgnggipjebemeaaDoor

namespace Go.Proofs.YtgnggipjebemeaaDoor
open Go.RowKit

def sv (l : List ByteArray) : List Value := l.map Value.string
theorem sv_length (l : List ByteArray) : (sv l).length = l.length := by simp [sv]

def Ss (w : World) (A : Option Addr) (n : Nat) (l : List ByteArray) : Prop := n = l.length ∧ Sl w 1 A n (sv l)
theorem Ss.below {w w' : World} {A : Option Addr} {n : Nat} {l : List ByteArray} (h : Ss w A n l) (hb : Below w.heap.size w w') : Ss w' A n l := ⟨h.1, h.2.below hb⟩
theorem Ss.at1 {w : World} {A : Option Addr} {n : Nat} {l : List ByteArray} (h : Ss w A n l) {k : Nat} (hk : k < l.length) :
    ∃ b o, A = some ⟨b, o, none⟩ ∧ b < w.heap.size ∧ w.cell? ⟨b, o + k, none⟩ = some (.string l[k]) := by
  obtain ⟨b, o, e, hb, hc⟩ := h.2.2 (by have := h.1; omega)
  exact ⟨b, o, e, hb, hc k _ (by simp [sv, hk])⟩
theorem Ss.fresh (w : World) (l : List ByteArray) (t : TypeId) (cs : Array Value) (hcs : cs.toList = sv l) : Ss (w.alloc (.cells cs t)) (some ⟨w.heap.size, 0, none⟩) l.length l := by
  refine ⟨rfl, by rw [sv_length, Nat.mul_one], fun _ => ⟨w.heap.size, 0, rfl, by simp, fun j u hu => ?_⟩⟩
  rw [Nat.zero_add, World.cell?_alloc_new, ← Array.getElem?_toList, hcs]
  exact hu

def fewT1 (s : ByteArray) : Bool := !(!decide (s.size ≤ 400) && decide (chkI s.data.toList = 0)) && decide (s.size ≤ 5000)
def fewT (l : List ByteArray) : Bool := l.all fewT1

def rightT1 (s : ByteArray) : Bool := decide (s.size ≤ 400) && decide (chkI s.data.toList = 0)
def rightT (l : List ByteArray) : Bool := l.all rightT1
theorem all_take {f : ByteArray → Bool} {l : List ByteArray} {k : Nat} (hk : k < l.length) (h : (l.take k).all f = true) : (f l[k] = false → l.all f = false) ∧ (f l[k] = true → (l.take (k + 1)).all f = true) := by
  constructor
  · intro h1
    refine Bool.eq_false_iff.2 fun h2 => ?_
    have := List.all_eq_true.1 h2 l[k] (List.getElem_mem hk)
    rw [h1] at this; cases this
  · intro h1
    rw [List.take_succ_eq_append_getElem hk, List.all_append, h]
    simp [h1]

set_option maxRecDepth 100000 in
set_option maxHeartbeats 2000000 in
theorem right_any (A : Option Addr) (n c : Nat) (l : List ByteArray) (w : World) (hl : Ss w A n l) (hn : n ≤ 1000) (hs : ∀ s ∈ l, s.size ≤ 9223372036854775807) :
    Calls Tryd.prog 5 #[.slice A n c] w fun e w' => e = .returned (.bool (rightT l)) ∧ Below w.heap.size w w' := by
  obtain ⟨rfl, _⟩ := id hl
  have HS := Lib.hid hs
  clear hs
  go_enter Tryd.func5, Tryd.ntmps5
  go_wp2
  go_loopw [7] (fun iv wr => ∃ k : Nat, k ≤ l.length ∧ iv = .int .i64 k ∧ (l.take k).all rightT1 = true ∧ Below w.heap.size w wr) (fun iv _ => l.length - (intOf iv).toNat)
  case atStart => exact ⟨0, Nat.zero_le _, rfl, by simp, Below.refl _ _⟩
  case round =>
    obtain ⟨k, hk, rfl, hall, hB⟩ := hrel
    by_cases hlt : k < l.length
    · obtain ⟨b, o, rfl, _, hc⟩ := (hl.below hB).at1 hlt
      obtain ⟨hf, ht⟩ := all_take hlt hall
      have hsz := HS.out l[k] (List.getElem_mem hlt)
      have hF := fun w => rfew_any l[k] w hsz
      have hC := fun w => rcheck_any l[k] w hsz
      have hd : rightT1 l[k] = (decide (l[k].size ≤ 400) && decide (chkI l[k].data.toList = 0)) := rfl
      have hfe : (l.all rightT1) = rightT l := rfl
      rw [hfe] at hf
      generalize chkI l[k].data.toList = e at *
      generalize l[k] = s at *
      have HF := Lib.hid hf
      have HT := Lib.hid ht
      have HD := Lib.hid hd
      clear hf ht hd hall hfe
      by_cases h4 : s.size ≤ 400
      · rw [decide_eq_true h4] at hF
        have HFw := Lib.hid hF
        have HCw := Lib.hid hC
        by_cases he : e = 0
        · subst he
          have hv : rightT1 s = true := by rw [HD.out, decide_eq_true h4]; rfl
          have H1 := Lib.hid (HT.out hv)
          clear hF hv hC
          go_wp2_with (first | (go_at_call 13; with_reducible refine (HFw.out _).mono ?_; rintro e wk ⟨rfl, hb⟩; replace hB := hB.trans (hb.mono hB.size); clear hb) | (go_at_call 14; with_reducible refine (HCw.out _).mono ?_; rintro e wk ⟨rfl, hb⟩; replace hB := hB.trans (hb.mono hB.size); clear hb))
          go_roundw
          case rel => exact ⟨k + 1, by omega, by go_num, H1.out, hB⟩
          case measure => simp [intOf]; omega
        · have g1 : (e == 0) = false := by simpa using he
          have g2 : (e != 0) = true := by simpa using he
          have hv : rightT1 s = false := by rw [HD.out, decide_eq_false he, Bool.and_false]
          have H1 := Lib.hid (HF.out hv)
          clear hF hv hC
          go_wp2_with (first | (go_at_call 13; with_reducible refine (HFw.out _).mono ?_; rintro e wk ⟨rfl, hb⟩; replace hB := hB.trans (hb.mono hB.size); clear hb) | (go_at_call 14; with_reducible refine (HCw.out _).mono ?_; rintro e wk ⟨rfl, hb⟩; replace hB := hB.trans (hb.mono hB.size); clear hb))
          go_ret
          exact ⟨by rw [H1.out]; rfl, hB⟩
      · rw [decide_eq_false h4] at hF
        have HFw := Lib.hid hF
        have hv : rightT1 s = false := by rw [HD.out, decide_eq_false h4, Bool.false_and]
        have H1 := Lib.hid (HF.out hv)
        clear hF hv hC
        go_wp2_with (go_at_call 13; with_reducible refine (HFw.out _).mono ?_; rintro e wk ⟨rfl, hb⟩; replace hB := hB.trans (hb.mono hB.size); clear hb)
        go_ret
        exact ⟨by rw [H1.out]; rfl, hB⟩
    · obtain rfl : k = l.length := by omega
      rw [List.take_length] at hall
      have H1 := Lib.hid (show rightT l = true from hall)
      clear hall
      go_wp2
      go_ret
      exact ⟨by rw [H1.out]; rfl, hB⟩
end Go.Proofs.YtgnggipjebemeaaDoor

namespace Go.Proofs.YtgnggipjebemeaaDoor
open Go.RowKit

theorem longT_const {u : BT} (h : chkI u = 0) : longT (valI u) = (u, 0) := by
  obtain ⟨h1, h2⟩ := valI_ok h
  rw [longT_fit h2, ← h1]
theorem opT_const {op : Int → Int → Int} {s t u : BT} (h1 : chkI s = 0) (h2 : chkI t = 0) (h3 : chkI u = 0) (hv : op (valI s) (valI t) = valI u) : opT op s t = (u, 0) := by
  unfold opT
  rw [if_neg (by simpa using chk2_zero.2 ⟨h1, h2⟩), hv, longT_const h3]
theorem divT_const {op : Int → Int → Int} {s t u : BT} (h1 : chkI s = 0) (h2 : chkI t = 0) (h3 : chkI u = 0) (h0 : valI t ≠ 0) (hv : op (valI s) (valI t) = valI u) : divT op s t = (u, 0) := by
  unfold divT
  rw [if_neg (by simpa using chk2_zero.2 ⟨h1, h2⟩), if_neg h0, hv, longT_const h3]

set_option maxRecDepth 100000 in
set_option maxHeartbeats 4000000 in
theorem awake_any (w : World) (ht : Tab w) : Calls Tryd.prog 6 #[] w fun e w' => e = .returned (.bool true) ∧ Below w.heap.size w w' := by
  have HT := Lib.hid ht
  have hB := Below.refl w.heap.size w
  have H1 := Lib.hid (fun w ht => quo_any ⟨#[55]⟩ ⟨#[45, 50]⟩ w (by decide) (by decide) ht)
  have H2 := Lib.hid (fun w ht => rem_any ⟨#[55]⟩ ⟨#[45, 50]⟩ w (by decide) (by decide) ht)
  have H3 := Lib.hid (fun w ht => quo_any ⟨#[45, 55]⟩ ⟨#[50]⟩ w (by decide) (by decide) ht)
  have H4 := Lib.hid (fun w ht => rem_any ⟨#[45, 55]⟩ ⟨#[50]⟩ w (by decide) (by decide) ht)
  have H5 := Lib.hid (fun w ht => gcd_any ⟨#[49, 50]⟩ ⟨#[45, 49, 56]⟩ w (by decide) (by decide) ht)
  have H6 := Lib.hid (fun w ht => add_any ⟨#[57, 57, 57, 57, 57, 57, 57, 57, 57, 57, 57, 57, 57, 57, 57, 57, 57, 57, 57, 57]⟩ ⟨#[49]⟩ w (by decide) (by decide) ht)
  simp only [show divT (fun x y : Int => x.fdiv y) [55] [45, 50] = ([45, 52], 0) from divT_const (by decide) (by decide) (by decide) (by decide) (by decide)] at H1
  simp only [show divT (fun x y : Int => x.fmod y) [55] [45, 50] = ([45, 49], 0) from divT_const (by decide) (by decide) (by decide) (by decide) (by decide)] at H2
  simp only [show divT (fun x y : Int => x.fdiv y) [45, 55] [50] = ([45, 52], 0) from divT_const (by decide) (by decide) (by decide) (by decide) (by decide)] at H3
  simp only [show divT (fun x y : Int => x.fmod y) [45, 55] [50] = ([49], 0) from divT_const (by decide) (by decide) (by decide) (by decide) (by decide)] at H4
  simp only [show opT (fun x y : Int => (Nat.gcd x.natAbs y.natAbs : Int)) [49, 50] [45, 49, 56] = ([54], 0) from opT_const (by decide) (by decide) (by decide) (by decide +kernel)] at H5
  simp only [show opT (fun x y : Int => x + y) [57, 57, 57, 57, 57, 57, 57, 57, 57, 57, 57, 57, 57, 57, 57, 57, 57, 57, 57, 57] [49] = ([49, 48, 48, 48, 48, 48, 48, 48, 48, 48, 48, 48, 48, 48, 48, 48, 48, 48, 48, 48, 48], 0) from opT_const (by decide) (by decide) (by decide) (by decide +kernel)] at H6
  clear ht
  go_enter Tryd.func6, Tryd.ntmps6
  go_wp2_with (first | (go_at_call 8; with_reducible refine (H1.out _ (HT.out.below hB)).mono ?_; rintro e wk ⟨rfl, hb⟩; replace hB := hB.trans (hb.mono hB.size); clear hb) | (go_at_call 8; with_reducible refine (H3.out _ (HT.out.below hB)).mono ?_; rintro e wk ⟨rfl, hb⟩; replace hB := hB.trans (hb.mono hB.size); clear hb) | (go_at_call 9; with_reducible refine (H2.out _ (HT.out.below hB)).mono ?_; rintro e wk ⟨rfl, hb⟩; replace hB := hB.trans (hb.mono hB.size); clear hb) | (go_at_call 9; with_reducible refine (H4.out _ (HT.out.below hB)).mono ?_; rintro e wk ⟨rfl, hb⟩; replace hB := hB.trans (hb.mono hB.size); clear hb) | (go_at_call 7; with_reducible refine (H5.out _ (HT.out.below hB)).mono ?_; rintro e wk ⟨rfl, hb⟩; replace hB := hB.trans (hb.mono hB.size); clear hb) | (go_at_call 12; with_reducible refine (H6.out _ (HT.out.below hB)).mono ?_; rintro e wk ⟨rfl, hb⟩; replace hB := hB.trans (hb.mono hB.size); clear hb))
  have hS := Ss.fresh wk [⟨#[]⟩, ⟨#[48, 49]⟩, ⟨#[43, 49]⟩, ⟨#[45, 48]⟩, ⟨#[49, 46, 48]⟩] 22 #[.string ⟨#[]⟩, .string ⟨#[48, 49]⟩, .string ⟨#[43, 49]⟩, .string ⟨#[45, 48]⟩, .string ⟨#[49, 46, 48]⟩] rfl
  have hbw := hB.alloc hB.size (.cells #[.string ⟨#[]⟩, .string ⟨#[48, 49]⟩, .string ⟨#[43, 49]⟩, .string ⟨#[45, 48]⟩, .string ⟨#[49, 46, 48]⟩] 22)
  have hall : ∀ s ∈ [(⟨#[]⟩ : ByteArray), ⟨#[48, 49]⟩, ⟨#[43, 49]⟩, ⟨#[45, 48]⟩, ⟨#[49, 46, 48]⟩], s.size ≤ 1000000000 ∧ chkI s.data.toList = 3 := by
    intro s hs
    simp only [List.mem_cons, List.not_mem_nil, or_false] at hs
    rcases hs with rfl | rfl | rfl | rfl | rfl <;> decide
  have hlen : ([(⟨#[]⟩ : ByteArray), ⟨#[48, 49]⟩, ⟨#[43, 49]⟩, ⟨#[45, 48]⟩, ⟨#[49, 46, 48]⟩] : List ByteArray).length = 5 := rfl
  rw [hlen] at hS
  generalize [(⟨#[]⟩ : ByteArray), ⟨#[48, 49]⟩, ⟨#[43, 49]⟩, ⟨#[45, 48]⟩, ⟨#[49, 46, 48]⟩] = l at *
  obtain ⟨W, hW⟩ : ∃ W, W = wk.alloc (.cells #[.string ⟨#[]⟩, .string ⟨#[48, 49]⟩, .string ⟨#[43, 49]⟩, .string ⟨#[45, 48]⟩, .string ⟨#[49, 46, 48]⟩] 22) := ⟨_, rfl⟩
  rw [← hW] at hS hbw
  rw [← hW]
  have HAll := Lib.hid hall
  have HL := Lib.hid hlen
  clear hW hB hall hlen H1 H2 H3 H4 H5 H6
  go_loopw [77] (fun iv wr => ∃ k : Nat, k ≤ 5 ∧ iv = .int .i64 k ∧ Below W.heap.size W wr) (fun iv _ => 5 - (intOf iv).toNat)
  case atStart => exact ⟨0, by omega, rfl, Below.refl _ _⟩
  case round =>
    obtain ⟨k, hk, rfl, hbr⟩ := hrel
    have hB := hbw.trans (hbr.mono hbw.size)
    by_cases hlt : k < 5
    · have hkl : k < l.length := by rw [HL.out]; exact hlt
      obtain ⟨b, o, he, _, hc⟩ := (hS.below hbr).at1 hkl
      injection he with he
      injection he with he1 he2
      subst he1 he2
      rw [Nat.zero_add] at hc
      obtain ⟨hs1, hs2⟩ := HAll.out l[k] (List.getElem_mem hkl)
      have hC := fun w => check_any l[k] w hs1
      simp only [hs2] at hC
      generalize l[k] = s at *
      have HC := Lib.hid hC
      clear hC hs1 hs2
      have hbr0 := hbr
      clear hB
      have hB := hbr
      go_wp2_with (go_at_call 15; with_reducible refine (HC.out _).mono ?_; rintro e wj ⟨rfl, hb⟩; have hbn := hbr.trans (hb.mono hbr.size); clear hb)
      go_roundw
      case rel => exact ⟨k + 1, by omega, by go_num, hbn⟩
      case measure => simp [intOf]; omega
    · obtain rfl : k = 5 := by omega
      have HC := Lib.hid (fun w => check_any ⟨#[45, 49, 48]⟩ w (by decide))
      simp only [show chkI [45, 49, 48] = 0 by decide] at HC
      go_wp2_with (go_at_call 15; with_reducible refine (HC.out _).mono ?_; rintro e wk ⟨rfl, hb⟩; replace hB := hB.trans (hb.mono hB.size); clear hb)
      go_ret
      exact ⟨rfl, hB⟩
end Go.Proofs.YtgnggipjebemeaaDoor

namespace Go.Proofs.YtgnggipjebemeaaDoor
open Go.RowKit

theorem few_sizes {l : List ByteArray} (h : fewT l = true) : ∀ s ∈ l, s.size ≤ 5000 := by
  intro s hs
  have h1 := List.all_eq_true.1 h s hs
  unfold fewT1 at h1
  simp only [Bool.and_eq_true, decide_eq_true_eq] at h1
  exact h1.2
theorem str_self (s : ByteArray) : (s.toList == s.toList) = true := by simp

def sI (z : Int) : ByteArray := ⟨(Lib.itoa z).toArray⟩
theorem sI_list (z : Int) : (sI z).data.toList = Lib.itoa z := rfl
theorem sI_of {a : ByteArray} {x : Int} (h : a.data.toList = Lib.itoa x) : a = sI x := ByteArray.ext (Array.ext' (by rw [h, sI_list]))
theorem sI_inj {x y : Int} (h : sI x = sI y) : x = y := itoa_inj (by rw [← sI_list, h, sI_list])
theorem sI_size {x : Int} (hx : Fit x) : (sI x).size ≤ 4097 := fit_size (sI_list x) hx
theorem chkI_sI {x : Int} (hx : Fit x) : chkI (sI x).data.toList = 0 := by rw [sI_list]; exact chkI_fit hx
theorem valI_sI (x : Int) : valI (sI x).data.toList = x := by rw [sI_list, valI_itoa]
theorem chk2_sI {x y : Int} (hx : Fit x) (hy : Fit y) : chk2 (sI x).data.toList (sI y).data.toList = 0 := chk2_zero.2 ⟨chkI_sI hx, chkI_sI hy⟩
theorem up_lt10 {x : Int} {k m : Nat} (hx : x.natAbs < 10 ^ k) (h : k ≤ m) : x.natAbs < 10 ^ m := Nat.lt_of_lt_of_le hx (Nat.pow_le_pow_right (by omega) h)
theorem fit_lt {b : Int} {k : Nat} (h : b.natAbs < 10 ^ k) (hk : k ≤ 4096) : Fit b := by
  unfold Fit
  exact up_lt10 (m := 4096) h hk
theorem right_all {l : List ByteArray} (h : rightT l = true) : ∀ s ∈ l, ∃ x : Int, s = sI x ∧ x.natAbs < 10 ^ 400 := by
  intro s hs
  have h1 := List.all_eq_true.1 h s hs
  unfold rightT1 at h1
  simp only [Bool.and_eq_true, decide_eq_true_eq] at h1
  obtain ⟨hz, hf⟩ := valI_ok h1.2
  refine ⟨_, sI_of hz, (dec_len_iff (k := 400) (by decide)).1 ?_⟩
  have h2 : (Lib.itoa (valI s.data.toList)).length ≤ 400 := by rw [← hz, bytes_len]; exact h1.1
  have h3 := bodyT_itoa (valI s.data.toList)
  have h4 := text_split (Lib.itoa (valI s.data.toList))
  rw [h3] at h4
  rw [h4] at h2
  split at h2
  · simp at h2; omega
  · exact h2
theorem opT_sI {op : Int → Int → Int} {x y z : Int} (hx : Fit x) (hy : Fit y) (hz : Fit z) (h : op x y = z) : opT op (sI x).data.toList (sI y).data.toList = (Lib.itoa z, 0) := by
  unfold opT
  rw [if_neg (by simpa using chk2_sI hx hy), valI_sI, valI_sI, h, longT_fit hz]
theorem divT_sI {op : Int → Int → Int} {x y z : Int} (hx : Fit x) (hy : Fit y) (h0 : y ≠ 0) (hz : Fit z) (h : op x y = z) : divT op (sI x).data.toList (sI y).data.toList = (Lib.itoa z, 0) := by
  unfold divT
  rw [if_neg (by simpa using chk2_sI hx hy), valI_sI, valI_sI, if_neg h0, h, longT_fit hz]
theorem comT_sI {x y : Int} (hx : Fit x) (hy : Fit y) : comT (sI x).data.toList (sI y).data.toList = ((x - y).sign, 0) := by
  unfold comT
  rw [if_neg (by simpa using chk2_sI hx hy), valI_sI, valI_sI]
theorem zero_list : Lib.itoa 0 = [48] := itoa_zero
theorem fit_zero : Fit 0 := fit_lt (k := 1) (by decide) (by decide)

theorem add_fit {x y z : Int} (hx : Fit x) (hy : Fit y) (hz : Fit z) (h : x + y = z) (w : World) (ht : Tab w) :
    Calls Tryd.prog 12 #[.string (sI x), .string (sI y)] w fun e w' => e = .returned (.tuple #[.string (sI z), .int .i64 0]) ∧ Below w.heap.size w w' := by
  have := add_any (sI x) (sI y) w (Nat.le_trans (sI_size hx) (by decide)) (Nat.le_trans (sI_size hy) (by decide)) ht
  rw [opT_sI hx hy hz h] at this
  exact this
theorem mul_fit {x y z : Int} (hx : Fit x) (hy : Fit y) (hz : Fit z) (h : x * y = z) (w : World) (ht : Tab w) :
    Calls Tryd.prog 11 #[.string (sI x), .string (sI y)] w fun e w' => e = .returned (.tuple #[.string (sI z), .int .i64 0]) ∧ Below w.heap.size w w' := by
  have := mul_any (sI x) (sI y) w (Nat.le_trans (sI_size hx) (by decide)) (Nat.le_trans (sI_size hy) (by decide)) ht
  rw [opT_sI hx hy hz h] at this
  exact this
theorem gcd_fit {x y z : Int} (hx : Fit x) (hy : Fit y) (hz : Fit z) (h : ((Nat.gcd x.natAbs y.natAbs : Nat) : Int) = z) (w : World) (ht : Tab w) :
    Calls Tryd.prog 7 #[.string (sI x), .string (sI y)] w fun e w' => e = .returned (.tuple #[.string (sI z), .int .i64 0]) ∧ Below w.heap.size w w' := by
  have := gcd_any (sI x) (sI y) w (Nat.le_trans (sI_size hx) (by decide)) (Nat.le_trans (sI_size hy) (by decide)) ht
  rw [opT_sI hx hy hz h] at this
  exact this
theorem quo_fit {x y z : Int} (hx : Fit x) (hy : Fit y) (h0 : y ≠ 0) (h : x.fdiv y = z) (w : World) (ht : Tab w) :
    Calls Tryd.prog 8 #[.string (sI x), .string (sI y)] w fun e w' => e = .returned (.tuple #[.string (sI z), .int .i64 0]) ∧ Below w.heap.size w w' := by
  have := quo_any (sI x) (sI y) w (Nat.le_trans (sI_size hx) (by decide)) (Nat.le_trans (sI_size hy) (by decide)) ht
  rw [divT_sI hx hy h0 (by rw [← h]; exact fdiv_fit hx h0) h] at this
  exact this
theorem rem_fit {x y z : Int} (hx : Fit x) (hy : Fit y) (h0 : y ≠ 0) (h : x.fmod y = z) (w : World) (ht : Tab w) :
    Calls Tryd.prog 9 #[.string (sI x), .string (sI y)] w fun e w' => e = .returned (.tuple #[.string (sI z), .int .i64 0]) ∧ Below w.heap.size w w' := by
  have := rem_any (sI x) (sI y) w (Nat.le_trans (sI_size hx) (by decide)) (Nat.le_trans (sI_size hy) (by decide)) ht
  rw [divT_sI hx hy h0 (by rw [← h]; exact fmod_fit hy h0) h] at this
  exact this
theorem fit_int {x : Int} (h0 : -9223372036854775808 ≤ x) (h1 : x ≤ 9223372036854775807) : Fit x := fit_lt (k := 19) (by omega) (by decide)
end Go.Proofs.YtgnggipjebemeaaDoor
