/- Lemmas and contracts of functions, joined for the claim: ZFew, ZAwake, Laid, ZFit. -/
import Derived.Test.YtppehllccdjfkaaGreatDoorRows
import Derived.Test.YtppehllccdjfkaaGreatDoorGProgC
import Derived.ProofKit
import Derived.OpenShut
import Derived.ChangeOld
import Derived.Deep.Slices
import Derived.Deep.Fields
import Derived.ChangeSame
import Derived.ChangeVars
import Derived.ChangeMaps5
import Derived.JoinedOf
import Derived.RowKit
import Derived.RowKitTokens
import Derived.LaidLaws
import Derived.LaidHandle
import Derived.LaidSub
import Derived.Lib.LaidU8
import Derived.Deep.DeepLaidRun
import Derived.Stop.LaidErr
import Derived.Test.YtppehllccdjfkaaGreatDoorGRefB
namespace Go.Proofs.YtppehllccdjfkaaGreatDoor
open Go.ChangeShapes Go.WideShapes Go.ChangeAt Go.RowKit Go.Deep

theorem own_ : ownKnob Tryz.prog.godebug = none := by kernel_rfl
theorem laidOut : laidOutB Tryz.prog = true := by kernel_rfl

def L3 : List (String × DataW Unit) := Rows.universeMakesRow.laid
theorem tabType : (Tryz.prog.globals[5]?).map (·.type) = some 422 := by kernel_rfl
theorem cells20 : Tryz.prog.cellsOf 422 = 20 := by kernel_rfl
theorem cellsU : Tryz.prog.cellsOf 255 = 1 := by kernel_rfl
theorem tabData_eq : (Rows.laid_internal_strconv_uint64pow10 : DataW Unit) = Lib.tabData .u64 Lib.pow10Tab := by kernel_rfl
theorem tab_of_laid {W : World} (h : laidMetH Tryz.prog L3 W) : Tab W := by
  have h1 : laidMet Tryz.prog L3 W := (laidMetH_iff.1 h).1
  obtain ⟨g, t, cs, fuel, p, hg, ht, hv, hd⟩ := Lib.laidMet.reads (n := "internal/strconv.uint64pow10") (d := Rows.laid_internal_strconv_uint64pow10) h1 (.tail _ (.tail _ (.head _)))
  obtain rfl := Option.some.inj (globTab.symm.trans hg)
  obtain rfl := Option.some.inj (tabType.symm.trans ht)
  rw [tabData_eq] at hd
  unfold Tab Lib.TabIs
  rw [hv, ← Lib.cells_of_tab Tryz.underlying422 Tryz.underlying255 cellsU cells20 hd]
theorem rngType : (Tryz.prog.globals[1]?).map (·.type) = some 279 := by kernel_rfl
theorem cellsEs : Tryz.prog.cellsOf 420 = 1 := by kernel_rfl
theorem cellsSt : Tryz.prog.cellsOf 9 = 1 := by kernel_rfl
theorem star_es : "*" ++ "errors.errorString" = "*errors.errorString" := by decide
theorem row_es (u : TypeId) (h : Tryz.prog.typeName? 3 u = some "*errors.errorString") : u = 418 :=
  typeName_ptr_named (nm := "errors.errorString") (by rw [star_es]; kernel_rfl) (by kernel_rfl) (by decide) u (by rw [star_es]; exact h)
theorem rng_of_laid {W : World} (h : laidMetH Tryz.prog L3 W) : Rng W := by
  have h1 : laidMet Tryz.prog L3 W := (laidMetH_iff.1 h).1
  obtain ⟨a0, s0, hv0, -, -, -⟩ := laid_sentinel (n := "strconv.ErrRange") h1.tail.tail.tail.tail globRng rngType Tryz.underlying279 row_es Tryz.underlying418 Tryz.underlying420 rfl rfl Tryz.underlying9 cellsEs cellsSt
  exact ⟨_, _, hv0⟩

def litCells : List (DataW Unit) → List Value
  | .lit (.int k z) :: r => .int k z :: litCells r
  | _ :: r => .int .u8 0 :: litCells r
  | [] => []
def cell1 : DataW Unit → List Value
  | .lit (.int k z) => [.int k z]
  | .agg l => litCells l
  | _ => []
def debits : DataW Unit → List Value
  | .agg l => l.flatMap cell1
  | _ => []

noncomputable def laidWorld (os : Os) : World :=
  let N := (World.settled Tryz.prog os).heap.size
  let w0 := World.holding Tryz.prog os ⟨#[.cells #[.string ⟨[118, 97, 108, 117, 101, 32, 111, 117, 116, 32, 111, 102, 32, 114, 97, 110, 103, 101].toArray⟩] 420, .cells #[.string ⟨[105, 110, 118, 97, 108, 105, 100, 32, 115, 121, 110, 116, 97, 120].toArray⟩] 420], #[], []⟩
  let put (h : Array Obj) (g : Nat) (cs : Array Value) : Array Obj := h.modify g fun
    | .cells _ t frozen => .cells cs t frozen
    | o => o
  let h1 := put w0.heap 6 (debits (Rows.laid_math_bits_deBruijn32tab : DataW Unit)).toArray
  let h2 := put h1 7 (debits (Rows.laid_math_bits_deBruijn64tab : DataW Unit)).toArray
  let h3 := put h2 5 (Lib.pow10Tab.map fun z => Value.int .u64 z).toArray
  let h4 := put h3 3 (debits (Rows.laid_unicode_utf8_acceptRanges : DataW Unit)).toArray
  let h5 := put h4 1 #[.iface 418 (.pointer (some ⟨N + 0, 0, none⟩))]
  let h6 := put h5 0 #[.iface 418 (.pointer (some ⟨N + 1, 0, none⟩))]
  let h7 := put h6 2 (debits (Rows.laid_unicode_utf8_first : DataW Unit)).toArray
  { w0 with heap := h7 }
theorem laid_met (os : Os) (args : Array Value) : laidMetH Tryz.prog L3 ((laidWorld os).forCall (fun _ _ => 0) ⟨#[], args, []⟩).memory :=
  laidMetH_of_parts (laidMet_of_run3 10 (by kernel_rfl) (by kernel_rfl) (by kernel_rfl)) (by kernel_rfl)

def Laid (w : World) : Prop := Tab w ∧ Rng w
theorem laid_of {W : World} (h : laidMetH Tryz.prog L3 W) : Laid W := ⟨tab_of_laid h, rng_of_laid h⟩
end Go.Proofs.YtppehllccdjfkaaGreatDoor

namespace Go.Proofs.YtppehllccdjfkaaGreatDoor
open Go.RowKit

def sv (l : List ByteArray) : List Value := l.map Value.string
theorem sv_length (l : List ByteArray) : (sv l).length = l.length := by simp [sv]

def Ss (w : World) (A : Option Addr) (n : Nat) (l : List ByteArray) : Prop := n = l.length ∧ Sl w 1 A n (sv l)
theorem Ss.below {w w' : World} {A : Option Addr} {n : Nat} {l : List ByteArray} (h : Ss w A n l) (hb : Below w.heap.size w w') : Ss w' A n l := ⟨h.1, h.2.below hb⟩
theorem Ss.at1 {w : World} {A : Option Addr} {n : Nat} {l : List ByteArray} (h : Ss w A n l) {k : Nat} (hk : k < l.length) :
    ∃ b o, A = some ⟨b, o, none⟩ ∧ b < w.heap.size ∧ w.cell? ⟨b, o + k, none⟩ = some (.string l[k]) := by
  obtain ⟨b, o, e, hb, hc⟩ := h.2.2 (by have := h.1; omega)
  exact ⟨b, o, e, hb, hc k _ (by simp [sv, hk])⟩
theorem Ss.fresh (w : World) (l : List ByteArray) (t : TypeId) (cs : Array Value) (hcs : cs.toList = sv l) : Ss (w.alloc (.cells cs t)) (some ⟨w.heap.size, 0, none⟩) l.length l := by
  refine ⟨rfl, by rw [sv_length, Nat.mul_one], fun _ => ⟨w.heap.size, 0, rfl, by simp, fun j u hu => ?_⟩⟩
  rw [Nat.zero_add, World.cell?_alloc_new, ← Array.getElem?_toList, hcs]
  exact hu

end Go.Proofs.YtppehllccdjfkaaGreatDoor

namespace Go.Proofs.YtppehllccdjfkaaGreatDoor
open Go.RowKit

end Go.Proofs.YtppehllccdjfkaaGreatDoor

namespace Go.Proofs.YtppehllccdjfkaaGreatDoor
open Go.RowKit

def sI (z : Int) : ByteArray := ⟨(Lib.itoa z).toArray⟩
theorem sI_list (z : Int) : (sI z).data.toList = Lib.itoa z := rfl
theorem sI_of {a : ByteArray} {x : Int} (h : a.data.toList = Lib.itoa x) : a = sI x := ByteArray.ext (Array.ext' (by rw [h, sI_list]))
theorem sI_size {x : Int} (hx : Fit x) : (sI x).size ≤ 4097 := fit_size (sI_list x) hx
theorem chkI_sI {x : Int} (hx : Fit x) : chkI (sI x).data.toList = 0 := by rw [sI_list]; exact chkI_fit hx
theorem valI_sI (x : Int) : valI (sI x).data.toList = x := by rw [sI_list, valI_itoa]
theorem chk2_sI {x y : Int} (hx : Fit x) (hy : Fit y) : chk2 (sI x).data.toList (sI y).data.toList = 0 := chk2_zero.2 ⟨chkI_sI hx, chkI_sI hy⟩
theorem up_lt10 {x : Int} {k m : Nat} (hx : x.natAbs < 10 ^ k) (h : k ≤ m) : x.natAbs < 10 ^ m := Nat.lt_of_lt_of_le hx (Nat.pow_le_pow_right (by omega) h)
theorem fit_lt {b : Int} {k : Nat} (h : b.natAbs < 10 ^ k) (hk : k ≤ 4096) : Fit b := by
  unfold Fit
  exact up_lt10 (m := 4096) h hk
theorem opT_sI {op : Int → Int → Int} {x y z : Int} (hx : Fit x) (hy : Fit y) (hz : Fit z) (h : op x y = z) : opT op (sI x).data.toList (sI y).data.toList = (Lib.itoa z, 0) := by
  unfold opT
  rw [if_neg (by simpa using chk2_sI hx hy), valI_sI, valI_sI, h, longT_fit hz]
theorem divT_sI {op : Int → Int → Int} {x y z : Int} (hx : Fit x) (hy : Fit y) (h0 : y ≠ 0) (hz : Fit z) (h : op x y = z) : divT op (sI x).data.toList (sI y).data.toList = (Lib.itoa z, 0) := by
  unfold divT
  rw [if_neg (by simpa using chk2_sI hx hy), valI_sI, valI_sI, if_neg h0, h, longT_fit hz]
theorem comT_sI {x y : Int} (hx : Fit x) (hy : Fit y) : comT (sI x).data.toList (sI y).data.toList = ((x - y).sign, 0) := by
  unfold comT
  rw [if_neg (by simpa using chk2_sI hx hy), valI_sI, valI_sI]
theorem zero_list : Lib.itoa 0 = [48] := itoa_zero
theorem fit_zero : Fit 0 := fit_lt (k := 1) (by decide) (by decide)

theorem add_fit {x y z : Int} (hx : Fit x) (hy : Fit y) (hz : Fit z) (h : x + y = z) (w : World) (ht : Tab w) :
    Calls Tryz.prog 224 #[.string (sI x), .string (sI y)] w fun e w' => e = .returned (.tuple #[.string (sI z), .int .i64 0]) ∧ Below w.heap.size w w' := by
  have := add_any (sI x) (sI y) w (Nat.le_trans (sI_size hx) (by decide)) (Nat.le_trans (sI_size hy) (by decide)) ht
  rw [opT_sI hx hy hz h] at this
  exact this
theorem sub_fit {x y z : Int} (hx : Fit x) (hy : Fit y) (hz : Fit z) (h : x - y = z) (w : World) (ht : Tab w) :
    Calls Tryz.prog 222 #[.string (sI x), .string (sI y)] w fun e w' => e = .returned (.tuple #[.string (sI z), .int .i64 0]) ∧ Below w.heap.size w w' := by
  have := sub_any (sI x) (sI y) w (Nat.le_trans (sI_size hx) (by decide)) (Nat.le_trans (sI_size hy) (by decide)) ht
  rw [opT_sI hx hy hz h] at this
  exact this
theorem mul_fit {x y z : Int} (hx : Fit x) (hy : Fit y) (hz : Fit z) (h : x * y = z) (w : World) (ht : Tab w) :
    Calls Tryz.prog 258 #[.string (sI x), .string (sI y)] w fun e w' => e = .returned (.tuple #[.string (sI z), .int .i64 0]) ∧ Below w.heap.size w w' := by
  have := mul_any (sI x) (sI y) w (Nat.le_trans (sI_size hx) (by decide)) (Nat.le_trans (sI_size hy) (by decide)) ht
  rw [opT_sI hx hy hz h] at this
  exact this
theorem gcd_fit {x y z : Int} (hx : Fit x) (hy : Fit y) (hz : Fit z) (h : ((Nat.gcd x.natAbs y.natAbs : Nat) : Int) = z) (w : World) (ht : Tab w) :
    Calls Tryz.prog 264 #[.string (sI x), .string (sI y)] w fun e w' => e = .returned (.tuple #[.string (sI z), .int .i64 0]) ∧ Below w.heap.size w w' := by
  have := gcd_any (sI x) (sI y) w (Nat.le_trans (sI_size hx) (by decide)) (Nat.le_trans (sI_size hy) (by decide)) ht
  rw [opT_sI hx hy hz h] at this
  exact this
theorem quo_fit {x y z : Int} (hx : Fit x) (hy : Fit y) (h0 : y ≠ 0) (h : x.fdiv y = z) (w : World) (ht : Tab w) :
    Calls Tryz.prog 270 #[.string (sI x), .string (sI y)] w fun e w' => e = .returned (.tuple #[.string (sI z), .int .i64 0]) ∧ Below w.heap.size w w' := by
  have := quo_any (sI x) (sI y) w (Nat.le_trans (sI_size hx) (by decide)) (Nat.le_trans (sI_size hy) (by decide)) ht
  rw [divT_sI hx hy h0 (by rw [← h]; exact fdiv_fit hx h0) h] at this
  exact this
theorem rem_fit {x y z : Int} (hx : Fit x) (hy : Fit y) (h0 : y ≠ 0) (h : x.fmod y = z) (w : World) (ht : Tab w) :
    Calls Tryz.prog 221 #[.string (sI x), .string (sI y)] w fun e w' => e = .returned (.tuple #[.string (sI z), .int .i64 0]) ∧ Below w.heap.size w w' := by
  have := rem_any (sI x) (sI y) w (Nat.le_trans (sI_size hx) (by decide)) (Nat.le_trans (sI_size hy) (by decide)) ht
  rw [divT_sI hx hy h0 (by rw [← h]; exact fmod_fit hy h0) h] at this
  exact this
theorem com_fit {x y : Int} (hx : Fit x) (hy : Fit y) (w : World) :
    Calls Tryz.prog 223 #[.string (sI x), .string (sI y)] w fun e w' => e = .returned (.tuple #[.int .i64 (x - y).sign, .int .i64 0]) ∧ Below w.heap.size w w' := by
  have := compare_int_any (sI x) (sI y) w (Nat.le_trans (sI_size hx) (by decide)) (Nat.le_trans (sI_size hy) (by decide))
  rw [comT_sI hx hy] at this
  exact this
theorem small_fit {x : Int} (hx : Fit x) (h0 : -9223372036854775808 ≤ x) (h1 : x ≤ 9223372036854775807) (w : World) (hr : Rng w) :
    Calls Tryz.prog 154 #[.string (sI x)] w fun e w' => e = .returned (.tuple #[.int .i64 x, .int .i64 0]) ∧ Below w.heap.size w w' := by
  have := small_any (sI x) w (Nat.le_trans (sI_size hx) (by decide)) hr
  rw [show smallT (sI x).data.toList = (x, 0) by unfold smallT; rw [if_neg (by simpa using chkI_sI hx), valI_sI, if_pos ⟨h0, h1⟩]] at this
  exact this
theorem of_fit {x : Int} (h0 : -9223372036854775808 ≤ x) (h1 : x ≤ 9223372036854775807) (w : World) (ht : Tab w) :
    Calls Tryz.prog 208 #[.int .i64 x] w fun e w' => e = .returned (.string (sI x)) ∧ Below w.heap.size w w' := of_any x h0 h1 w ht
theorem fit_int {x : Int} (h0 : -9223372036854775808 ≤ x) (h1 : x ≤ 9223372036854775807) : Fit x := fit_lt (k := 19) (by omega) (by decide)
end Go.Proofs.YtppehllccdjfkaaGreatDoor
