/-
  NARROWER THAN 'FOR EVERY INPUT', by the rows' own cells (each row's printed sentence says how): RangesWrites: laid · RangesReturns: laid · RangesCombines: laid · RangesMembers: laid · RangesChecks: laid · RangesMakes: laid · RangesLists: laid.
  DERIVED. THE GIVEN ROWS OF THIS SEAT. 7 by the template 'for every input the law returns true; each argument reads behind the call as it read before'; 0 by the template 'total and deterministic' (their statements: YteaofninjbhiaaaDoorTotals.lean).
  GIVEN WITH THE SEED: the statements are not yours to turn. If you find one false, say at which input.
  Laid BY PROGRAM, IN A SANDBOX (cutbox-rows.mjs): the forced cells as the released guide's own fill.sh prints them over the translation d74332628942eba9… (all of the seat's roots in one cut). By AI agents, Wed Nov 11 2026. No macro, syntax, notation, axiom, sorry.
-/
import Derived.Test.YteaofninjbhiaaaDoorChecked
import GoSem.Claim
import GoSem.ClaimJoined
import GoSem.ClaimMapViews
import Derived.JoinedTies
import Derived.KernelRfl
namespace Go.Proofs.YteaofninjbhiaaaDoor
/- THE CELL 'sum', in the pinned program and in every row, IS THE sha256 OF THE DUMP (.gsa) THAT YteaofninjbhiaaaDoorProg.lean LOADS. Nothing in Lean hashes anything: it is a label: what it is worth is what the hold of that sum in a sandbox is worth. -/
noncomputable def Tryd.pinned : Pinned := { name := "yteaofninjbhiaaadoor", sum := "d74332628942eba907c886c68c5770e788883df5659ae45d0ed2e1c5c2869208", checked := Tryd.checked }
namespace Rows
def none {H : Type} : Left H := { results := [], args := [] }

/- WHAT THE LISTED PACKAGE-LEVEL VARIABLES READ AS WHEN THE CALL BEGINS. Each datum BY PROGRAM (the guide's laid-datum.mjs) off the statement by which the dump's own 'gosem.cut.vars' lays the variable. In a bare row this is a premise. The card (YteaofninjbhiaaaDoorCards.lean) ties it to the program's text. -/
def laid_math_bits_deBruijn32tab {H : Type} : DataW H := .agg [.lit (.int .u8 0), .lit (.int .u8 1), .lit (.int .u8 28), .lit (.int .u8 2), .lit (.int .u8 29), .lit (.int .u8 14), .lit (.int .u8 24), .lit (.int .u8 3), .lit (.int .u8 30), .lit (.int .u8 22), .lit (.int .u8 20), .lit (.int .u8 15), .lit (.int .u8 25), .lit (.int .u8 17), .lit (.int .u8 4), .lit (.int .u8 8), .lit (.int .u8 31), .lit (.int .u8 27), .lit (.int .u8 13), .lit (.int .u8 23), .lit (.int .u8 21), .lit (.int .u8 19), .lit (.int .u8 16), .lit (.int .u8 7), .lit (.int .u8 26), .lit (.int .u8 12), .lit (.int .u8 18), .lit (.int .u8 6), .lit (.int .u8 11), .lit (.int .u8 5), .lit (.int .u8 10), .lit (.int .u8 9)]
def laid_math_bits_deBruijn64tab {H : Type} : DataW H := .agg [.lit (.int .u8 0), .lit (.int .u8 1), .lit (.int .u8 56), .lit (.int .u8 2), .lit (.int .u8 57), .lit (.int .u8 49), .lit (.int .u8 28), .lit (.int .u8 3), .lit (.int .u8 61), .lit (.int .u8 58), .lit (.int .u8 42), .lit (.int .u8 50), .lit (.int .u8 38), .lit (.int .u8 29), .lit (.int .u8 17), .lit (.int .u8 4), .lit (.int .u8 62), .lit (.int .u8 47), .lit (.int .u8 59), .lit (.int .u8 36), .lit (.int .u8 45), .lit (.int .u8 43), .lit (.int .u8 51), .lit (.int .u8 22), .lit (.int .u8 53), .lit (.int .u8 39), .lit (.int .u8 33), .lit (.int .u8 30), .lit (.int .u8 24), .lit (.int .u8 18), .lit (.int .u8 12), .lit (.int .u8 5), .lit (.int .u8 63), .lit (.int .u8 55), .lit (.int .u8 48), .lit (.int .u8 27), .lit (.int .u8 60), .lit (.int .u8 41), .lit (.int .u8 37), .lit (.int .u8 16), .lit (.int .u8 46), .lit (.int .u8 35), .lit (.int .u8 44), .lit (.int .u8 21), .lit (.int .u8 52), .lit (.int .u8 32), .lit (.int .u8 23), .lit (.int .u8 11), .lit (.int .u8 54), .lit (.int .u8 26), .lit (.int .u8 40), .lit (.int .u8 15), .lit (.int .u8 34), .lit (.int .u8 20), .lit (.int .u8 31), .lit (.int .u8 10), .lit (.int .u8 25), .lit (.int .u8 14), .lit (.int .u8 19), .lit (.int .u8 9), .lit (.int .u8 13), .lit (.int .u8 8), .lit (.int .u8 7), .lit (.int .u8 6)]
def laid_internal_strconv_uint64pow10 {H : Type} : DataW H := .agg [.lit (.int .u64 1), .lit (.int .u64 10), .lit (.int .u64 100), .lit (.int .u64 1000), .lit (.int .u64 10000), .lit (.int .u64 100000), .lit (.int .u64 1000000), .lit (.int .u64 10000000), .lit (.int .u64 100000000), .lit (.int .u64 1000000000), .lit (.int .u64 10000000000), .lit (.int .u64 100000000000), .lit (.int .u64 1000000000000), .lit (.int .u64 10000000000000), .lit (.int .u64 100000000000000), .lit (.int .u64 1000000000000000), .lit (.int .u64 10000000000000000), .lit (.int .u64 100000000000000000), .lit (.int .u64 1000000000000000000), .lit (.int .u64 10000000000000000000)]

/-- 'luminairelaw06.RangesWrites': WHATEVER THE INPUT: true; the input reads as it did. -/
def rangesWritesSpec : ChangeSpec := { name := "rangesWrites", fn := fun _ => fun
  | [d] => { results := [.lit (.bool true)], args := [d] }
  | _ => none }
def rangesWritesRow : OpenClaim := { program := "yteaofninjbhiaaadoor", sum := "d74332628942eba907c886c68c5770e788883df5659ae45d0ed2e1c5c2869208", func := "luminaire/luminairelaw06.RangesWrites", spec := "rangesWrites", inPlace := ["internal/abi.NoEscape", "internal/bytealg.MakeNoZero"], unfollowed := true, recurses := true, named := ["internal/strconv.uint64pow10", "math/bits.deBruijn32tab", "math/bits.deBruijn64tab"], apart := false, laid := [("math/bits.deBruijn32tab", laid_math_bits_deBruijn32tab), ("math/bits.deBruijn64tab", laid_math_bits_deBruijn64tab), ("internal/strconv.uint64pow10", laid_internal_strconv_uint64pow10)] }
def RangesWritesSaid : Prop := rangesWritesRow.holds Tryd.pinned (OpenSpec.ofChange rangesWritesSpec)

/-- ITS FALSE NEIGHBOUR: 'it returns false'. Refute it at one input. -/
def rangesWritesWrong : ChangeSpec := { name := "rangesWrites", fn := fun _ => fun
  | [d] => { results := [.lit (.bool false)], args := [d] }
  | _ => none }
def RangesWritesWrongFalsely : Prop := rangesWritesRow.holds Tryd.pinned (OpenSpec.ofChange rangesWritesWrong)

/-- 'luminairelaw06.RangesReturns': WHATEVER THE INPUT: true; the input reads as it did. -/
def rangesReturnsSpec : ChangeSpec := { name := "rangesReturns", fn := fun _ => fun
  | [d] => { results := [.lit (.bool true)], args := [d] }
  | _ => none }
def rangesReturnsRow : OpenClaim := { program := "yteaofninjbhiaaadoor", sum := "d74332628942eba907c886c68c5770e788883df5659ae45d0ed2e1c5c2869208", func := "luminaire/luminairelaw06.RangesReturns", spec := "rangesReturns", inPlace := ["internal/abi.NoEscape", "internal/bytealg.MakeNoZero"], unfollowed := true, recurses := true, named := ["internal/strconv.uint64pow10", "math/bits.deBruijn32tab", "math/bits.deBruijn64tab"], apart := false, laid := [("math/bits.deBruijn32tab", laid_math_bits_deBruijn32tab), ("math/bits.deBruijn64tab", laid_math_bits_deBruijn64tab), ("internal/strconv.uint64pow10", laid_internal_strconv_uint64pow10)] }
def RangesReturnsSaid : Prop := rangesReturnsRow.holds Tryd.pinned (OpenSpec.ofChange rangesReturnsSpec)

/-- ITS FALSE NEIGHBOUR: 'it returns false'. Refute it at one input. -/
def rangesReturnsWrong : ChangeSpec := { name := "rangesReturns", fn := fun _ => fun
  | [d] => { results := [.lit (.bool false)], args := [d] }
  | _ => none }
def RangesReturnsWrongFalsely : Prop := rangesReturnsRow.holds Tryd.pinned (OpenSpec.ofChange rangesReturnsWrong)

/-- 'luminairelaw06.RangesCombines': WHATEVER THE INPUT: true; the input reads as it did. -/
def rangesCombinesSpec : ChangeSpec := { name := "rangesCombines", fn := fun _ => fun
  | [d1, d2] => { results := [.lit (.bool true)], args := [d1, d2] }
  | _ => none }
def rangesCombinesRow : OpenClaim := { program := "yteaofninjbhiaaadoor", sum := "d74332628942eba907c886c68c5770e788883df5659ae45d0ed2e1c5c2869208", func := "luminaire/luminairelaw06.RangesCombines", spec := "rangesCombines", inPlace := ["internal/abi.NoEscape", "internal/bytealg.MakeNoZero"], unfollowed := true, recurses := true, named := ["internal/strconv.uint64pow10", "math/bits.deBruijn32tab", "math/bits.deBruijn64tab"], apart := false, laid := [("math/bits.deBruijn32tab", laid_math_bits_deBruijn32tab), ("math/bits.deBruijn64tab", laid_math_bits_deBruijn64tab), ("internal/strconv.uint64pow10", laid_internal_strconv_uint64pow10)] }
def RangesCombinesSaid : Prop := rangesCombinesRow.holds Tryd.pinned (OpenSpec.ofChange rangesCombinesSpec)

/-- ITS FALSE NEIGHBOUR: 'it returns false'. Refute it at one input. -/
def rangesCombinesWrong : ChangeSpec := { name := "rangesCombines", fn := fun _ => fun
  | [d1, d2] => { results := [.lit (.bool false)], args := [d1, d2] }
  | _ => none }
def RangesCombinesWrongFalsely : Prop := rangesCombinesRow.holds Tryd.pinned (OpenSpec.ofChange rangesCombinesWrong)

/-- 'luminairelaw06.RangesMembers': WHATEVER THE INPUT: true; the input reads as it did. -/
def rangesMembersSpec : ChangeSpec := { name := "rangesMembers", fn := fun _ => fun
  | [d1, d2, d3] => { results := [.lit (.bool true)], args := [d1, d2, d3] }
  | _ => none }
def rangesMembersRow : OpenClaim := { program := "yteaofninjbhiaaadoor", sum := "d74332628942eba907c886c68c5770e788883df5659ae45d0ed2e1c5c2869208", func := "luminaire/luminairelaw06.RangesMembers", spec := "rangesMembers", inPlace := ["internal/abi.NoEscape", "internal/bytealg.MakeNoZero"], unfollowed := true, recurses := true, named := ["internal/strconv.uint64pow10", "math/bits.deBruijn32tab", "math/bits.deBruijn64tab"], apart := false, laid := [("math/bits.deBruijn32tab", laid_math_bits_deBruijn32tab), ("math/bits.deBruijn64tab", laid_math_bits_deBruijn64tab), ("internal/strconv.uint64pow10", laid_internal_strconv_uint64pow10)] }
def RangesMembersSaid : Prop := rangesMembersRow.holds Tryd.pinned (OpenSpec.ofChange rangesMembersSpec)

/-- ITS FALSE NEIGHBOUR: 'it returns false'. Refute it at one input. -/
def rangesMembersWrong : ChangeSpec := { name := "rangesMembers", fn := fun _ => fun
  | [d1, d2, d3] => { results := [.lit (.bool false)], args := [d1, d2, d3] }
  | _ => none }
def RangesMembersWrongFalsely : Prop := rangesMembersRow.holds Tryd.pinned (OpenSpec.ofChange rangesMembersWrong)

/-- 'luminairelaw06.RangesChecks': WHATEVER THE INPUT: true; the input reads as it did. -/
def rangesChecksSpec : ChangeSpec := { name := "rangesChecks", fn := fun _ => fun
  | [d1, d2] => { results := [.lit (.bool true)], args := [d1, d2] }
  | _ => none }
def rangesChecksRow : OpenClaim := { program := "yteaofninjbhiaaadoor", sum := "d74332628942eba907c886c68c5770e788883df5659ae45d0ed2e1c5c2869208", func := "luminaire/luminairelaw06.RangesChecks", spec := "rangesChecks", inPlace := ["internal/abi.NoEscape", "internal/bytealg.MakeNoZero"], unfollowed := true, recurses := true, named := ["internal/strconv.uint64pow10", "math/bits.deBruijn32tab", "math/bits.deBruijn64tab"], apart := false, laid := [("math/bits.deBruijn32tab", laid_math_bits_deBruijn32tab), ("math/bits.deBruijn64tab", laid_math_bits_deBruijn64tab), ("internal/strconv.uint64pow10", laid_internal_strconv_uint64pow10)] }
def RangesChecksSaid : Prop := rangesChecksRow.holds Tryd.pinned (OpenSpec.ofChange rangesChecksSpec)

/-- ITS FALSE NEIGHBOUR: 'it returns false'. Refute it at one input. -/
def rangesChecksWrong : ChangeSpec := { name := "rangesChecks", fn := fun _ => fun
  | [d1, d2] => { results := [.lit (.bool false)], args := [d1, d2] }
  | _ => none }
def RangesChecksWrongFalsely : Prop := rangesChecksRow.holds Tryd.pinned (OpenSpec.ofChange rangesChecksWrong)

/-- 'luminairelaw06.RangesMakes': WHATEVER THE INPUT: true; the input reads as it did. -/
def rangesMakesSpec : ChangeSpec := { name := "rangesMakes", fn := fun _ => fun
  | [d1, d2] => { results := [.lit (.bool true)], args := [d1, d2] }
  | _ => none }
def rangesMakesRow : OpenClaim := { program := "yteaofninjbhiaaadoor", sum := "d74332628942eba907c886c68c5770e788883df5659ae45d0ed2e1c5c2869208", func := "luminaire/luminairelaw06.RangesMakes", spec := "rangesMakes", inPlace := ["internal/abi.NoEscape", "internal/bytealg.MakeNoZero"], unfollowed := true, recurses := true, named := ["internal/strconv.uint64pow10", "math/bits.deBruijn32tab", "math/bits.deBruijn64tab"], apart := false, laid := [("math/bits.deBruijn32tab", laid_math_bits_deBruijn32tab), ("math/bits.deBruijn64tab", laid_math_bits_deBruijn64tab), ("internal/strconv.uint64pow10", laid_internal_strconv_uint64pow10)] }
def RangesMakesSaid : Prop := rangesMakesRow.holds Tryd.pinned (OpenSpec.ofChange rangesMakesSpec)

/-- ITS FALSE NEIGHBOUR: 'it returns false'. Refute it at one input. -/
def rangesMakesWrong : ChangeSpec := { name := "rangesMakes", fn := fun _ => fun
  | [d1, d2] => { results := [.lit (.bool false)], args := [d1, d2] }
  | _ => none }
def RangesMakesWrongFalsely : Prop := rangesMakesRow.holds Tryd.pinned (OpenSpec.ofChange rangesMakesWrong)

/-- 'luminairelaw06.RangesLists': WHATEVER THE INPUT: true; the input reads as it did. -/
def rangesListsSpec : ChangeSpec := { name := "rangesLists", fn := fun _ => fun
  | [d1, d2] => { results := [.lit (.bool true)], args := [d1, d2] }
  | _ => none }
def rangesListsRow : OpenClaim := { program := "yteaofninjbhiaaadoor", sum := "d74332628942eba907c886c68c5770e788883df5659ae45d0ed2e1c5c2869208", func := "luminaire/luminairelaw06.RangesLists", spec := "rangesLists", inPlace := ["internal/abi.NoEscape", "internal/bytealg.MakeNoZero"], unfollowed := true, recurses := true, named := ["internal/strconv.uint64pow10", "math/bits.deBruijn32tab", "math/bits.deBruijn64tab"], apart := false, laid := [("math/bits.deBruijn32tab", laid_math_bits_deBruijn32tab), ("math/bits.deBruijn64tab", laid_math_bits_deBruijn64tab), ("internal/strconv.uint64pow10", laid_internal_strconv_uint64pow10)] }
def RangesListsSaid : Prop := rangesListsRow.holds Tryd.pinned (OpenSpec.ofChange rangesListsSpec)

/-- ITS FALSE NEIGHBOUR: 'it returns false'. Refute it at one input. -/
def rangesListsWrong : ChangeSpec := { name := "rangesLists", fn := fun _ => fun
  | [d1, d2] => { results := [.lit (.bool false)], args := [d1, d2] }
  | _ => none }
def RangesListsWrongFalsely : Prop := rangesListsRow.holds Tryd.pinned (OpenSpec.ofChange rangesListsWrong)

/- THE SECOND FORM. 'bulk': how many values and letters a reading holds, each counted each time it is reached (what is shared counts as often as it is met; a slice's spare places count too). A statement '..UptoSaid' is the law's where the arguments, and the package variables that the reading takes, are together of bulk at most 1048576: NARROWER than '..Said'. Prove '..Said' where nothing that the law and all that it calls make is longer than what came in: it says more and counts as full. Else prove '..UptoSaid'. A law counts once. -/
mutual
def uptoBulk {H : Type} : DataW H → Nat
  | .lit (.string bytes) => bytes.length + 1
  | .lit _ => 1
  | .nil => 1
  | .ptr d => uptoBulk d + 1
  | .slice elems spare => uptoBulkAll elems + uptoBulkAll spare + 1
  | .agg parts => uptoBulkAll parts + 1
  | .iface _ d => uptoBulk d + 1
  | .map entries => uptoBulkEntries entries + 1
  | .held _ => 1
def uptoBulkAll {H : Type} : List (DataW H) → Nat
  | [] => 0
  | d :: r => uptoBulk d + uptoBulkAll r
def uptoBulkEntries {H : Type} : List (Lit × DataW H) → Nat
  | [] => 0
  | x :: r => uptoBulkEntry x + uptoBulkEntries r
def uptoBulkEntry {H : Type} : Lit × DataW H → Nat
  | (.string bytes, d) => bytes.length + uptoBulk d + 1
  | (_, d) => uptoBulk d + 1
 end
def uptoSmall : (H : Type) → List (DataW H) → Bool := fun _ ds => decide (uptoBulkAll ds ≤ 1048576)
def OpenSpec.upto (s : _root_.Go.ChangeSpec) : _root_.Go.OpenSpec := { _root_.Go.OpenSpec.ofChange s with cond := some uptoSmall }

/-- 'luminairelaw06.RangesWrites', WHERE WHAT IT READS IS OF BULK AT MOST 1048576: true; the input reads as it did. -/
def rangesWritesUptoRow : OpenClaim := { program := "yteaofninjbhiaaadoor", sum := "d74332628942eba907c886c68c5770e788883df5659ae45d0ed2e1c5c2869208", func := "luminaire/luminairelaw06.RangesWrites", spec := "rangesWrites", inPlace := ["internal/abi.NoEscape", "internal/bytealg.MakeNoZero"], unfollowed := true, recurses := true, named := ["internal/strconv.uint64pow10", "math/bits.deBruijn32tab", "math/bits.deBruijn64tab"], apart := false, laid := [("math/bits.deBruijn32tab", laid_math_bits_deBruijn32tab), ("math/bits.deBruijn64tab", laid_math_bits_deBruijn64tab), ("internal/strconv.uint64pow10", laid_internal_strconv_uint64pow10)], narrowed := true }
def RangesWritesUptoSaid : Prop := rangesWritesUptoRow.holds Tryd.pinned (OpenSpec.upto rangesWritesSpec)

/-- 'luminairelaw06.RangesReturns', WHERE WHAT IT READS IS OF BULK AT MOST 1048576: true; the input reads as it did. -/
def rangesReturnsUptoRow : OpenClaim := { program := "yteaofninjbhiaaadoor", sum := "d74332628942eba907c886c68c5770e788883df5659ae45d0ed2e1c5c2869208", func := "luminaire/luminairelaw06.RangesReturns", spec := "rangesReturns", inPlace := ["internal/abi.NoEscape", "internal/bytealg.MakeNoZero"], unfollowed := true, recurses := true, named := ["internal/strconv.uint64pow10", "math/bits.deBruijn32tab", "math/bits.deBruijn64tab"], apart := false, laid := [("math/bits.deBruijn32tab", laid_math_bits_deBruijn32tab), ("math/bits.deBruijn64tab", laid_math_bits_deBruijn64tab), ("internal/strconv.uint64pow10", laid_internal_strconv_uint64pow10)], narrowed := true }
def RangesReturnsUptoSaid : Prop := rangesReturnsUptoRow.holds Tryd.pinned (OpenSpec.upto rangesReturnsSpec)

/-- 'luminairelaw06.RangesCombines', WHERE WHAT IT READS IS OF BULK AT MOST 1048576: true; the input reads as it did. -/
def rangesCombinesUptoRow : OpenClaim := { program := "yteaofninjbhiaaadoor", sum := "d74332628942eba907c886c68c5770e788883df5659ae45d0ed2e1c5c2869208", func := "luminaire/luminairelaw06.RangesCombines", spec := "rangesCombines", inPlace := ["internal/abi.NoEscape", "internal/bytealg.MakeNoZero"], unfollowed := true, recurses := true, named := ["internal/strconv.uint64pow10", "math/bits.deBruijn32tab", "math/bits.deBruijn64tab"], apart := false, laid := [("math/bits.deBruijn32tab", laid_math_bits_deBruijn32tab), ("math/bits.deBruijn64tab", laid_math_bits_deBruijn64tab), ("internal/strconv.uint64pow10", laid_internal_strconv_uint64pow10)], narrowed := true }
def RangesCombinesUptoSaid : Prop := rangesCombinesUptoRow.holds Tryd.pinned (OpenSpec.upto rangesCombinesSpec)

/-- 'luminairelaw06.RangesMembers', WHERE WHAT IT READS IS OF BULK AT MOST 1048576: true; the input reads as it did. -/
def rangesMembersUptoRow : OpenClaim := { program := "yteaofninjbhiaaadoor", sum := "d74332628942eba907c886c68c5770e788883df5659ae45d0ed2e1c5c2869208", func := "luminaire/luminairelaw06.RangesMembers", spec := "rangesMembers", inPlace := ["internal/abi.NoEscape", "internal/bytealg.MakeNoZero"], unfollowed := true, recurses := true, named := ["internal/strconv.uint64pow10", "math/bits.deBruijn32tab", "math/bits.deBruijn64tab"], apart := false, laid := [("math/bits.deBruijn32tab", laid_math_bits_deBruijn32tab), ("math/bits.deBruijn64tab", laid_math_bits_deBruijn64tab), ("internal/strconv.uint64pow10", laid_internal_strconv_uint64pow10)], narrowed := true }
def RangesMembersUptoSaid : Prop := rangesMembersUptoRow.holds Tryd.pinned (OpenSpec.upto rangesMembersSpec)

/-- 'luminairelaw06.RangesChecks', WHERE WHAT IT READS IS OF BULK AT MOST 1048576: true; the input reads as it did. -/
def rangesChecksUptoRow : OpenClaim := { program := "yteaofninjbhiaaadoor", sum := "d74332628942eba907c886c68c5770e788883df5659ae45d0ed2e1c5c2869208", func := "luminaire/luminairelaw06.RangesChecks", spec := "rangesChecks", inPlace := ["internal/abi.NoEscape", "internal/bytealg.MakeNoZero"], unfollowed := true, recurses := true, named := ["internal/strconv.uint64pow10", "math/bits.deBruijn32tab", "math/bits.deBruijn64tab"], apart := false, laid := [("math/bits.deBruijn32tab", laid_math_bits_deBruijn32tab), ("math/bits.deBruijn64tab", laid_math_bits_deBruijn64tab), ("internal/strconv.uint64pow10", laid_internal_strconv_uint64pow10)], narrowed := true }
def RangesChecksUptoSaid : Prop := rangesChecksUptoRow.holds Tryd.pinned (OpenSpec.upto rangesChecksSpec)

/-- 'luminairelaw06.RangesMakes', WHERE WHAT IT READS IS OF BULK AT MOST 1048576: true; the input reads as it did. -/
def rangesMakesUptoRow : OpenClaim := { program := "yteaofninjbhiaaadoor", sum := "d74332628942eba907c886c68c5770e788883df5659ae45d0ed2e1c5c2869208", func := "luminaire/luminairelaw06.RangesMakes", spec := "rangesMakes", inPlace := ["internal/abi.NoEscape", "internal/bytealg.MakeNoZero"], unfollowed := true, recurses := true, named := ["internal/strconv.uint64pow10", "math/bits.deBruijn32tab", "math/bits.deBruijn64tab"], apart := false, laid := [("math/bits.deBruijn32tab", laid_math_bits_deBruijn32tab), ("math/bits.deBruijn64tab", laid_math_bits_deBruijn64tab), ("internal/strconv.uint64pow10", laid_internal_strconv_uint64pow10)], narrowed := true }
def RangesMakesUptoSaid : Prop := rangesMakesUptoRow.holds Tryd.pinned (OpenSpec.upto rangesMakesSpec)

/-- 'luminairelaw06.RangesLists', WHERE WHAT IT READS IS OF BULK AT MOST 1048576: true; the input reads as it did. -/
def rangesListsUptoRow : OpenClaim := { program := "yteaofninjbhiaaadoor", sum := "d74332628942eba907c886c68c5770e788883df5659ae45d0ed2e1c5c2869208", func := "luminaire/luminairelaw06.RangesLists", spec := "rangesLists", inPlace := ["internal/abi.NoEscape", "internal/bytealg.MakeNoZero"], unfollowed := true, recurses := true, named := ["internal/strconv.uint64pow10", "math/bits.deBruijn32tab", "math/bits.deBruijn64tab"], apart := false, laid := [("math/bits.deBruijn32tab", laid_math_bits_deBruijn32tab), ("math/bits.deBruijn64tab", laid_math_bits_deBruijn64tab), ("internal/strconv.uint64pow10", laid_internal_strconv_uint64pow10)], narrowed := true }
def RangesListsUptoSaid : Prop := rangesListsUptoRow.holds Tryd.pinned (OpenSpec.upto rangesListsSpec)

end Rows
end Go.Proofs.YteaofninjbhiaaaDoor
