/-
  NARROWER THAN 'FOR EVERY INPUT', by the rows' own cells (each row's printed sentence says how): TopConfig: laid · TopNodes: laid · TopSame: laid · TopLines: laid.
  DERIVED. THE GIVEN ROWS OF THIS SEAT. 4 by the template 'for every input the law returns true; each argument reads behind the call as it read before'; 0 by the template 'total and deterministic' (their statements: YtjopodnlffaogaaGreatDoorTotals.lean).
  GIVEN WITH THE SEED: the statements are not yours to turn. If you find one false, say at which input.
  Laid BY PROGRAM, IN A SANDBOX (cutbox-rows.mjs): the forced cells as the released guide's own fill.sh prints them over the translation d08798de29774f32… (all of the seat's roots in one cut). By AI agents, Wed Nov 11 2026. No macro, syntax, notation, axiom, sorry.
-/
import Derived.Test.YtjopodnlffaogaaGreatDoorChecked
import GoSem.PinnedTables
import GoSem.Claim
import GoSem.ClaimJoined
import GoSem.ClaimMapViews
import Derived.JoinedTies
import Derived.KernelRfl
namespace Go.Proofs.YtjopodnlffaogaaGreatDoor
/- THE CELL 'sum', in the pinned program and in every row, IS THE sha256 OF THE DUMP (.gsa) THAT YtjopodnlffaogaaGreatDoorProg.lean LOADS. Nothing in Lean hashes anything: it is a label: what it is worth is what the hold of that sum in a sandbox is worth. -/
noncomputable def Tryz.pinned : Pinned := { name := "ytjopodnlffaogaagreatdoor", sum := "d08798de29774f32cd91cf81a80ba8f108c088f033d04775ebce8478e8c064c3", checked := Tryz.checked }
namespace Rows
def none {H : Type} : Left H := { results := [], args := [] }

/- WHAT THE LISTED PACKAGE-LEVEL VARIABLES READ AS WHEN THE CALL BEGINS. Each datum BY PROGRAM (the guide's laid-datum.mjs) off the statement by which the dump's own 'gosem.cut.vars' lays the variable. In a bare row this is a premise. The card (YtjopodnlffaogaaGreatDoorCards.lean) ties it to the program's text. -/
def laid_math_bits_deBruijn32tab {H : Type} : DataW H := .agg [.lit (.int .u8 0), .lit (.int .u8 1), .lit (.int .u8 28), .lit (.int .u8 2), .lit (.int .u8 29), .lit (.int .u8 14), .lit (.int .u8 24), .lit (.int .u8 3), .lit (.int .u8 30), .lit (.int .u8 22), .lit (.int .u8 20), .lit (.int .u8 15), .lit (.int .u8 25), .lit (.int .u8 17), .lit (.int .u8 4), .lit (.int .u8 8), .lit (.int .u8 31), .lit (.int .u8 27), .lit (.int .u8 13), .lit (.int .u8 23), .lit (.int .u8 21), .lit (.int .u8 19), .lit (.int .u8 16), .lit (.int .u8 7), .lit (.int .u8 26), .lit (.int .u8 12), .lit (.int .u8 18), .lit (.int .u8 6), .lit (.int .u8 11), .lit (.int .u8 5), .lit (.int .u8 10), .lit (.int .u8 9)]
def laid_math_bits_deBruijn64tab {H : Type} : DataW H := .agg [.lit (.int .u8 0), .lit (.int .u8 1), .lit (.int .u8 56), .lit (.int .u8 2), .lit (.int .u8 57), .lit (.int .u8 49), .lit (.int .u8 28), .lit (.int .u8 3), .lit (.int .u8 61), .lit (.int .u8 58), .lit (.int .u8 42), .lit (.int .u8 50), .lit (.int .u8 38), .lit (.int .u8 29), .lit (.int .u8 17), .lit (.int .u8 4), .lit (.int .u8 62), .lit (.int .u8 47), .lit (.int .u8 59), .lit (.int .u8 36), .lit (.int .u8 45), .lit (.int .u8 43), .lit (.int .u8 51), .lit (.int .u8 22), .lit (.int .u8 53), .lit (.int .u8 39), .lit (.int .u8 33), .lit (.int .u8 30), .lit (.int .u8 24), .lit (.int .u8 18), .lit (.int .u8 12), .lit (.int .u8 5), .lit (.int .u8 63), .lit (.int .u8 55), .lit (.int .u8 48), .lit (.int .u8 27), .lit (.int .u8 60), .lit (.int .u8 41), .lit (.int .u8 37), .lit (.int .u8 16), .lit (.int .u8 46), .lit (.int .u8 35), .lit (.int .u8 44), .lit (.int .u8 21), .lit (.int .u8 52), .lit (.int .u8 32), .lit (.int .u8 23), .lit (.int .u8 11), .lit (.int .u8 54), .lit (.int .u8 26), .lit (.int .u8 40), .lit (.int .u8 15), .lit (.int .u8 34), .lit (.int .u8 20), .lit (.int .u8 31), .lit (.int .u8 10), .lit (.int .u8 25), .lit (.int .u8 14), .lit (.int .u8 19), .lit (.int .u8 9), .lit (.int .u8 13), .lit (.int .u8 8), .lit (.int .u8 7), .lit (.int .u8 6)]
def laid_internal_strconv_uint64pow10 {H : Type} : DataW H := .agg [.lit (.int .u64 1), .lit (.int .u64 10), .lit (.int .u64 100), .lit (.int .u64 1000), .lit (.int .u64 10000), .lit (.int .u64 100000), .lit (.int .u64 1000000), .lit (.int .u64 10000000), .lit (.int .u64 100000000), .lit (.int .u64 1000000000), .lit (.int .u64 10000000000), .lit (.int .u64 100000000000), .lit (.int .u64 1000000000000), .lit (.int .u64 10000000000000), .lit (.int .u64 100000000000000), .lit (.int .u64 1000000000000000), .lit (.int .u64 10000000000000000), .lit (.int .u64 100000000000000000), .lit (.int .u64 1000000000000000000), .lit (.int .u64 10000000000000000000)]
def laid_unicode_utf8_acceptRanges {H : Type} : DataW H := .agg [.agg [.lit (.int .u8 128), .lit (.int .u8 191)], .agg [.lit (.int .u8 160), .lit (.int .u8 191)], .agg [.lit (.int .u8 128), .lit (.int .u8 159)], .agg [.lit (.int .u8 144), .lit (.int .u8 191)], .agg [.lit (.int .u8 128), .lit (.int .u8 143)], .agg [.lit (.int .u8 0), .lit (.int .u8 0)], .agg [.lit (.int .u8 0), .lit (.int .u8 0)], .agg [.lit (.int .u8 0), .lit (.int .u8 0)], .agg [.lit (.int .u8 0), .lit (.int .u8 0)], .agg [.lit (.int .u8 0), .lit (.int .u8 0)], .agg [.lit (.int .u8 0), .lit (.int .u8 0)], .agg [.lit (.int .u8 0), .lit (.int .u8 0)], .agg [.lit (.int .u8 0), .lit (.int .u8 0)], .agg [.lit (.int .u8 0), .lit (.int .u8 0)], .agg [.lit (.int .u8 0), .lit (.int .u8 0)], .agg [.lit (.int .u8 0), .lit (.int .u8 0)]]
def laid_strconv_ErrRange {H : Type} : DataW H := .iface "*errors.errorString" (.ptr (.agg [.lit (.string [118, 97, 108, 117, 101, 32, 111, 117, 116, 32, 111, 102, 32, 114, 97, 110, 103, 101])]))
def laid_strconv_ErrSyntax {H : Type} : DataW H := .iface "*errors.errorString" (.ptr (.agg [.lit (.string [105, 110, 118, 97, 108, 105, 100, 32, 115, 121, 110, 116, 97, 120])]))
def laid_ropeline_qlock_words {H : Type} : DataW H := .agg [.lit (.string []), .lit (.string [116, 105, 99, 107, 101, 116]), .lit (.string [97, 110, 100, 101, 114, 115, 111, 110]), .lit (.string [103, 114, 97, 117, 110, 107, 101]), .lit (.string [99, 108, 104]), .lit (.string [109, 99, 115]), .lit (.string [107, 52, 50]), .lit (.string [99, 108, 104, 45, 116, 114, 121]), .lit (.string [109, 99, 115, 45, 116, 114, 121])]
def laid_ropeline_trace_words {H : Type} : DataW H := .agg [.lit (.string []), .lit (.string [99, 97, 108, 108]), .lit (.string [101, 110, 113]), .lit (.string [103, 114, 97, 110, 116]), .lit (.string [97, 98, 111, 114, 116]), .lit (.string [103, 111, 116]), .lit (.string [108, 111, 115, 116]), .lit (.string [102, 117, 108, 108]), .lit (.string [117, 110, 108, 111, 99, 107]), .lit (.string [114, 101, 108, 101, 97, 115, 101]), .lit (.string [111, 118, 101, 114])]
def laid_ropeline_machine_marks {H : Type} : DataW H := .agg [.lit (.int .i64 0), .lit (.int .i64 2), .lit (.int .i64 3), .lit (.int .i64 4), .lit (.int .i64 9)]
def laid_ropeline_machine_ends {H : Type} : DataW H := .agg [.agg [.lit (.int .i64 6), .lit (.int .i64 0)], .agg [.lit (.int .i64 5), .lit (.int .i64 2)], .agg [.lit (.int .i64 10), .lit (.int .i64 0)], .agg [.lit (.int .i64 7), .lit (.int .i64 0)]]
/-- One of Go's own tables, pinned by name: the form's constant. -/
def laid_unicode_utf8_first : DataW Unit := Go.Pinned.utf8First

/-- 'ropelinetop.TopConfig': WHATEVER THE INPUT: true; the input reads as it did. -/
def topConfigSpec : ChangeSpec := { name := "topConfig", fn := fun _ => fun
  | [d] => { results := [.lit (.bool true)], args := [d] }
  | _ => none }
def topConfigRow : OpenClaim := { program := "ytjopodnlffaogaagreatdoor", sum := "d08798de29774f32cd91cf81a80ba8f108c088f033d04775ebce8478e8c064c3", func := "ropeline/ropelinetop.TopConfig", spec := "topConfig", inPlace := ["internal/bytealg.IndexByteString", "internal/bytealg.CountString", "internal/bytealg.IndexString", "internal/abi.NoEscape", "internal/bytealg.MakeNoZero", "sync/atomic.StoreUint32", "sync/atomic.LoadUint32", "sync/atomic.SwapUint32", "sync/atomic.CompareAndSwapUint32", "sync/atomic.AddUint32"], unfollowed := true, recurses := true, named := ["unicode/utf8.first", "unicode/utf8.acceptRanges", "internal/bytealg.MaxLen", "strconv.ErrSyntax", "strconv.ErrRange", "internal/strconv.uint64pow10", "math/bits.deBruijn32tab", "math/bits.deBruijn64tab", "ropeline/machine.marks", "ropeline/machine.ends", "ropeline/trace.words", "ropeline/qlock.words"], apart := false, laid := [("math/bits.deBruijn32tab", laid_math_bits_deBruijn32tab), ("math/bits.deBruijn64tab", laid_math_bits_deBruijn64tab), ("internal/strconv.uint64pow10", laid_internal_strconv_uint64pow10), ("unicode/utf8.acceptRanges", laid_unicode_utf8_acceptRanges), ("strconv.ErrRange", laid_strconv_ErrRange), ("strconv.ErrSyntax", laid_strconv_ErrSyntax), ("ropeline/qlock.words", laid_ropeline_qlock_words), ("ropeline/trace.words", laid_ropeline_trace_words), ("ropeline/machine.marks", laid_ropeline_machine_marks), ("ropeline/machine.ends", laid_ropeline_machine_ends), ("unicode/utf8.first", laid_unicode_utf8_first)] }
def TopConfigSaid : Prop := topConfigRow.holds Tryz.pinned (OpenSpec.ofChange topConfigSpec)

/-- ITS FALSE NEIGHBOUR: 'it returns false'. Refute it at one input. -/
def topConfigWrong : ChangeSpec := { name := "topConfig", fn := fun _ => fun
  | [d] => { results := [.lit (.bool false)], args := [d] }
  | _ => none }
def TopConfigWrongFalsely : Prop := topConfigRow.holds Tryz.pinned (OpenSpec.ofChange topConfigWrong)

/-- 'ropelinetop.TopNodes': WHATEVER THE INPUT: true; the input reads as it did. -/
def topNodesSpec : ChangeSpec := { name := "topNodes", fn := fun _ => fun
  | [d1, d2] => { results := [.lit (.bool true)], args := [d1, d2] }
  | _ => none }
def topNodesRow : OpenClaim := { program := "ytjopodnlffaogaagreatdoor", sum := "d08798de29774f32cd91cf81a80ba8f108c088f033d04775ebce8478e8c064c3", func := "ropeline/ropelinetop.TopNodes", spec := "topNodes", inPlace := ["internal/bytealg.IndexByteString", "sync/atomic.LoadUint32", "sync/atomic.StoreUint32", "sync/atomic.SwapUint32", "sync/atomic.CompareAndSwapUint32", "sync/atomic.AddUint32", "internal/abi.NoEscape", "internal/bytealg.CountString", "internal/bytealg.IndexString", "internal/bytealg.MakeNoZero"], unfollowed := true, recurses := true, named := ["ropeline/machine.marks", "ropeline/machine.ends", "internal/strconv.uint64pow10", "math/bits.deBruijn32tab", "math/bits.deBruijn64tab", "ropeline/trace.words", "unicode/utf8.first", "unicode/utf8.acceptRanges", "internal/bytealg.MaxLen", "strconv.ErrSyntax", "strconv.ErrRange", "ropeline/qlock.words"], apart := false, laid := [("math/bits.deBruijn32tab", laid_math_bits_deBruijn32tab), ("math/bits.deBruijn64tab", laid_math_bits_deBruijn64tab), ("internal/strconv.uint64pow10", laid_internal_strconv_uint64pow10), ("unicode/utf8.acceptRanges", laid_unicode_utf8_acceptRanges), ("strconv.ErrRange", laid_strconv_ErrRange), ("strconv.ErrSyntax", laid_strconv_ErrSyntax), ("ropeline/qlock.words", laid_ropeline_qlock_words), ("ropeline/trace.words", laid_ropeline_trace_words), ("ropeline/machine.marks", laid_ropeline_machine_marks), ("ropeline/machine.ends", laid_ropeline_machine_ends), ("unicode/utf8.first", laid_unicode_utf8_first)] }
def TopNodesSaid : Prop := topNodesRow.holds Tryz.pinned (OpenSpec.ofChange topNodesSpec)

/-- ITS FALSE NEIGHBOUR: 'it returns false'. Refute it at one input. -/
def topNodesWrong : ChangeSpec := { name := "topNodes", fn := fun _ => fun
  | [d1, d2] => { results := [.lit (.bool false)], args := [d1, d2] }
  | _ => none }
def TopNodesWrongFalsely : Prop := topNodesRow.holds Tryz.pinned (OpenSpec.ofChange topNodesWrong)

/-- 'ropelinetop.TopSame': WHATEVER THE INPUT: true; the input reads as it did. -/
def topSameSpec : ChangeSpec := { name := "topSame", fn := fun _ => fun
  | [d1, d2] => { results := [.lit (.bool true)], args := [d1, d2] }
  | _ => none }
def topSameRow : OpenClaim := { program := "ytjopodnlffaogaagreatdoor", sum := "d08798de29774f32cd91cf81a80ba8f108c088f033d04775ebce8478e8c064c3", func := "ropeline/ropelinetop.TopSame", spec := "topSame", inPlace := ["internal/bytealg.IndexByteString", "sync/atomic.LoadUint32", "sync/atomic.StoreUint32", "sync/atomic.SwapUint32", "sync/atomic.CompareAndSwapUint32", "sync/atomic.AddUint32", "internal/abi.NoEscape", "internal/bytealg.CountString", "internal/bytealg.IndexString", "internal/bytealg.MakeNoZero"], unfollowed := true, recurses := true, named := ["ropeline/machine.marks", "ropeline/machine.ends", "internal/strconv.uint64pow10", "math/bits.deBruijn32tab", "math/bits.deBruijn64tab", "ropeline/trace.words", "unicode/utf8.first", "unicode/utf8.acceptRanges", "internal/bytealg.MaxLen", "strconv.ErrSyntax", "strconv.ErrRange", "ropeline/qlock.words"], apart := false, laid := [("math/bits.deBruijn32tab", laid_math_bits_deBruijn32tab), ("math/bits.deBruijn64tab", laid_math_bits_deBruijn64tab), ("internal/strconv.uint64pow10", laid_internal_strconv_uint64pow10), ("unicode/utf8.acceptRanges", laid_unicode_utf8_acceptRanges), ("strconv.ErrRange", laid_strconv_ErrRange), ("strconv.ErrSyntax", laid_strconv_ErrSyntax), ("ropeline/qlock.words", laid_ropeline_qlock_words), ("ropeline/trace.words", laid_ropeline_trace_words), ("ropeline/machine.marks", laid_ropeline_machine_marks), ("ropeline/machine.ends", laid_ropeline_machine_ends), ("unicode/utf8.first", laid_unicode_utf8_first)] }
def TopSameSaid : Prop := topSameRow.holds Tryz.pinned (OpenSpec.ofChange topSameSpec)

/-- ITS FALSE NEIGHBOUR: 'it returns false'. Refute it at one input. -/
def topSameWrong : ChangeSpec := { name := "topSame", fn := fun _ => fun
  | [d1, d2] => { results := [.lit (.bool false)], args := [d1, d2] }
  | _ => none }
def TopSameWrongFalsely : Prop := topSameRow.holds Tryz.pinned (OpenSpec.ofChange topSameWrong)

/-- 'ropelinetop.TopLines': WHATEVER THE INPUT: true; the input reads as it did. -/
def topLinesSpec : ChangeSpec := { name := "topLines", fn := fun _ => fun
  | [d] => { results := [.lit (.bool true)], args := [d] }
  | _ => none }
def topLinesRow : OpenClaim := { program := "ytjopodnlffaogaagreatdoor", sum := "d08798de29774f32cd91cf81a80ba8f108c088f033d04775ebce8478e8c064c3", func := "ropeline/ropelinetop.TopLines", spec := "topLines", inPlace := ["internal/bytealg.IndexByteString", "sync/atomic.LoadUint32", "sync/atomic.StoreUint32", "sync/atomic.SwapUint32", "sync/atomic.CompareAndSwapUint32", "sync/atomic.AddUint32", "internal/abi.NoEscape", "internal/bytealg.CountString", "internal/bytealg.IndexString", "internal/bytealg.MakeNoZero"], unfollowed := true, recurses := true, named := ["ropeline/machine.marks", "ropeline/machine.ends", "internal/strconv.uint64pow10", "math/bits.deBruijn32tab", "math/bits.deBruijn64tab", "ropeline/trace.words", "unicode/utf8.first", "unicode/utf8.acceptRanges", "internal/bytealg.MaxLen", "strconv.ErrSyntax", "strconv.ErrRange", "ropeline/qlock.words"], apart := false, laid := [("math/bits.deBruijn32tab", laid_math_bits_deBruijn32tab), ("math/bits.deBruijn64tab", laid_math_bits_deBruijn64tab), ("internal/strconv.uint64pow10", laid_internal_strconv_uint64pow10), ("unicode/utf8.acceptRanges", laid_unicode_utf8_acceptRanges), ("strconv.ErrRange", laid_strconv_ErrRange), ("strconv.ErrSyntax", laid_strconv_ErrSyntax), ("ropeline/qlock.words", laid_ropeline_qlock_words), ("ropeline/trace.words", laid_ropeline_trace_words), ("ropeline/machine.marks", laid_ropeline_machine_marks), ("ropeline/machine.ends", laid_ropeline_machine_ends), ("unicode/utf8.first", laid_unicode_utf8_first)] }
def TopLinesSaid : Prop := topLinesRow.holds Tryz.pinned (OpenSpec.ofChange topLinesSpec)

/-- ITS FALSE NEIGHBOUR: 'it returns false'. Refute it at one input. -/
def topLinesWrong : ChangeSpec := { name := "topLines", fn := fun _ => fun
  | [d] => { results := [.lit (.bool false)], args := [d] }
  | _ => none }
def TopLinesWrongFalsely : Prop := topLinesRow.holds Tryz.pinned (OpenSpec.ofChange topLinesWrong)

/- THE SECOND FORM. 'bulk': how many values and letters a reading holds, each counted each time it is reached (what is shared counts as often as it is met; a slice's spare places count too). A statement '..UptoSaid' is the law's where the arguments, and the package variables that the reading takes, are together of bulk at most 1048576: NARROWER than '..Said'. Prove '..Said' where nothing that the law and all that it calls make is longer than what came in: it says more and counts as full. Else prove '..UptoSaid'. A law counts once. -/
mutual
def uptoBulk {H : Type} : DataW H → Nat
  | .lit (.string bytes) => bytes.length + 1
  | .lit _ => 1
  | .nil => 1
  | .ptr d => uptoBulk d + 1
  | .slice elems spare => uptoBulkAll elems + uptoBulkAll spare + 1
  | .agg parts => uptoBulkAll parts + 1
  | .iface _ d => uptoBulk d + 1
  | .map entries => uptoBulkEntries entries + 1
  | .held _ => 1
def uptoBulkAll {H : Type} : List (DataW H) → Nat
  | [] => 0
  | d :: r => uptoBulk d + uptoBulkAll r
def uptoBulkEntries {H : Type} : List (Lit × DataW H) → Nat
  | [] => 0
  | x :: r => uptoBulkEntry x + uptoBulkEntries r
def uptoBulkEntry {H : Type} : Lit × DataW H → Nat
  | (.string bytes, d) => bytes.length + uptoBulk d + 1
  | (_, d) => uptoBulk d + 1
 end
def uptoSmall : (H : Type) → List (DataW H) → Bool := fun _ ds => decide (uptoBulkAll ds ≤ 1048576)
def OpenSpec.upto (s : _root_.Go.ChangeSpec) : _root_.Go.OpenSpec := { _root_.Go.OpenSpec.ofChange s with cond := some uptoSmall }

/-- 'ropelinetop.TopConfig', WHERE WHAT IT READS IS OF BULK AT MOST 1048576: true; the input reads as it did. -/
def topConfigUptoRow : OpenClaim := { program := "ytjopodnlffaogaagreatdoor", sum := "d08798de29774f32cd91cf81a80ba8f108c088f033d04775ebce8478e8c064c3", func := "ropeline/ropelinetop.TopConfig", spec := "topConfig", inPlace := ["internal/bytealg.IndexByteString", "internal/bytealg.CountString", "internal/bytealg.IndexString", "internal/abi.NoEscape", "internal/bytealg.MakeNoZero", "sync/atomic.StoreUint32", "sync/atomic.LoadUint32", "sync/atomic.SwapUint32", "sync/atomic.CompareAndSwapUint32", "sync/atomic.AddUint32"], unfollowed := true, recurses := true, named := ["unicode/utf8.first", "unicode/utf8.acceptRanges", "internal/bytealg.MaxLen", "strconv.ErrSyntax", "strconv.ErrRange", "internal/strconv.uint64pow10", "math/bits.deBruijn32tab", "math/bits.deBruijn64tab", "ropeline/machine.marks", "ropeline/machine.ends", "ropeline/trace.words", "ropeline/qlock.words"], apart := false, laid := [("math/bits.deBruijn32tab", laid_math_bits_deBruijn32tab), ("math/bits.deBruijn64tab", laid_math_bits_deBruijn64tab), ("internal/strconv.uint64pow10", laid_internal_strconv_uint64pow10), ("unicode/utf8.acceptRanges", laid_unicode_utf8_acceptRanges), ("strconv.ErrRange", laid_strconv_ErrRange), ("strconv.ErrSyntax", laid_strconv_ErrSyntax), ("ropeline/qlock.words", laid_ropeline_qlock_words), ("ropeline/trace.words", laid_ropeline_trace_words), ("ropeline/machine.marks", laid_ropeline_machine_marks), ("ropeline/machine.ends", laid_ropeline_machine_ends), ("unicode/utf8.first", laid_unicode_utf8_first)], narrowed := true }
def TopConfigUptoSaid : Prop := topConfigUptoRow.holds Tryz.pinned (OpenSpec.upto topConfigSpec)

/-- 'ropelinetop.TopNodes', WHERE WHAT IT READS IS OF BULK AT MOST 1048576: true; the input reads as it did. -/
def topNodesUptoRow : OpenClaim := { program := "ytjopodnlffaogaagreatdoor", sum := "d08798de29774f32cd91cf81a80ba8f108c088f033d04775ebce8478e8c064c3", func := "ropeline/ropelinetop.TopNodes", spec := "topNodes", inPlace := ["internal/bytealg.IndexByteString", "sync/atomic.LoadUint32", "sync/atomic.StoreUint32", "sync/atomic.SwapUint32", "sync/atomic.CompareAndSwapUint32", "sync/atomic.AddUint32", "internal/abi.NoEscape", "internal/bytealg.CountString", "internal/bytealg.IndexString", "internal/bytealg.MakeNoZero"], unfollowed := true, recurses := true, named := ["ropeline/machine.marks", "ropeline/machine.ends", "internal/strconv.uint64pow10", "math/bits.deBruijn32tab", "math/bits.deBruijn64tab", "ropeline/trace.words", "unicode/utf8.first", "unicode/utf8.acceptRanges", "internal/bytealg.MaxLen", "strconv.ErrSyntax", "strconv.ErrRange", "ropeline/qlock.words"], apart := false, laid := [("math/bits.deBruijn32tab", laid_math_bits_deBruijn32tab), ("math/bits.deBruijn64tab", laid_math_bits_deBruijn64tab), ("internal/strconv.uint64pow10", laid_internal_strconv_uint64pow10), ("unicode/utf8.acceptRanges", laid_unicode_utf8_acceptRanges), ("strconv.ErrRange", laid_strconv_ErrRange), ("strconv.ErrSyntax", laid_strconv_ErrSyntax), ("ropeline/qlock.words", laid_ropeline_qlock_words), ("ropeline/trace.words", laid_ropeline_trace_words), ("ropeline/machine.marks", laid_ropeline_machine_marks), ("ropeline/machine.ends", laid_ropeline_machine_ends), ("unicode/utf8.first", laid_unicode_utf8_first)], narrowed := true }
def TopNodesUptoSaid : Prop := topNodesUptoRow.holds Tryz.pinned (OpenSpec.upto topNodesSpec)

/-- 'ropelinetop.TopSame', WHERE WHAT IT READS IS OF BULK AT MOST 1048576: true; the input reads as it did. -/
def topSameUptoRow : OpenClaim := { program := "ytjopodnlffaogaagreatdoor", sum := "d08798de29774f32cd91cf81a80ba8f108c088f033d04775ebce8478e8c064c3", func := "ropeline/ropelinetop.TopSame", spec := "topSame", inPlace := ["internal/bytealg.IndexByteString", "sync/atomic.LoadUint32", "sync/atomic.StoreUint32", "sync/atomic.SwapUint32", "sync/atomic.CompareAndSwapUint32", "sync/atomic.AddUint32", "internal/abi.NoEscape", "internal/bytealg.CountString", "internal/bytealg.IndexString", "internal/bytealg.MakeNoZero"], unfollowed := true, recurses := true, named := ["ropeline/machine.marks", "ropeline/machine.ends", "internal/strconv.uint64pow10", "math/bits.deBruijn32tab", "math/bits.deBruijn64tab", "ropeline/trace.words", "unicode/utf8.first", "unicode/utf8.acceptRanges", "internal/bytealg.MaxLen", "strconv.ErrSyntax", "strconv.ErrRange", "ropeline/qlock.words"], apart := false, laid := [("math/bits.deBruijn32tab", laid_math_bits_deBruijn32tab), ("math/bits.deBruijn64tab", laid_math_bits_deBruijn64tab), ("internal/strconv.uint64pow10", laid_internal_strconv_uint64pow10), ("unicode/utf8.acceptRanges", laid_unicode_utf8_acceptRanges), ("strconv.ErrRange", laid_strconv_ErrRange), ("strconv.ErrSyntax", laid_strconv_ErrSyntax), ("ropeline/qlock.words", laid_ropeline_qlock_words), ("ropeline/trace.words", laid_ropeline_trace_words), ("ropeline/machine.marks", laid_ropeline_machine_marks), ("ropeline/machine.ends", laid_ropeline_machine_ends), ("unicode/utf8.first", laid_unicode_utf8_first)], narrowed := true }
def TopSameUptoSaid : Prop := topSameUptoRow.holds Tryz.pinned (OpenSpec.upto topSameSpec)

/-- 'ropelinetop.TopLines', WHERE WHAT IT READS IS OF BULK AT MOST 1048576: true; the input reads as it did. -/
def topLinesUptoRow : OpenClaim := { program := "ytjopodnlffaogaagreatdoor", sum := "d08798de29774f32cd91cf81a80ba8f108c088f033d04775ebce8478e8c064c3", func := "ropeline/ropelinetop.TopLines", spec := "topLines", inPlace := ["internal/bytealg.IndexByteString", "sync/atomic.LoadUint32", "sync/atomic.StoreUint32", "sync/atomic.SwapUint32", "sync/atomic.CompareAndSwapUint32", "sync/atomic.AddUint32", "internal/abi.NoEscape", "internal/bytealg.CountString", "internal/bytealg.IndexString", "internal/bytealg.MakeNoZero"], unfollowed := true, recurses := true, named := ["ropeline/machine.marks", "ropeline/machine.ends", "internal/strconv.uint64pow10", "math/bits.deBruijn32tab", "math/bits.deBruijn64tab", "ropeline/trace.words", "unicode/utf8.first", "unicode/utf8.acceptRanges", "internal/bytealg.MaxLen", "strconv.ErrSyntax", "strconv.ErrRange", "ropeline/qlock.words"], apart := false, laid := [("math/bits.deBruijn32tab", laid_math_bits_deBruijn32tab), ("math/bits.deBruijn64tab", laid_math_bits_deBruijn64tab), ("internal/strconv.uint64pow10", laid_internal_strconv_uint64pow10), ("unicode/utf8.acceptRanges", laid_unicode_utf8_acceptRanges), ("strconv.ErrRange", laid_strconv_ErrRange), ("strconv.ErrSyntax", laid_strconv_ErrSyntax), ("ropeline/qlock.words", laid_ropeline_qlock_words), ("ropeline/trace.words", laid_ropeline_trace_words), ("ropeline/machine.marks", laid_ropeline_machine_marks), ("ropeline/machine.ends", laid_ropeline_machine_ends), ("unicode/utf8.first", laid_unicode_utf8_first)], narrowed := true }
def TopLinesUptoSaid : Prop := topLinesUptoRow.holds Tryz.pinned (OpenSpec.upto topLinesSpec)

end Rows
end Go.Proofs.YtjopodnlffaogaaGreatDoor
