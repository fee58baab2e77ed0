/-
  NARROWER THAN 'FOR EVERY INPUT', by the rows' own cells (each row's printed sentence says how): ThreadCards: laid · ThreadBys: loops, laid · ThreadSorts: laid · ThreadSubjects: laid · ThreadReferences: laid · ThreadLines: loops, laid · ThreadReads: laid · ThreadStable: laid · ThreadTurned: laid · ThreadAll: laid · ThreadUnordered: laid · ThreadHangs: laid · ThreadAround: laid · ThreadSubjected: laid · ThreadKeeps: loops, laid.
  DERIVED. THE GIVEN ROWS OF THIS SEAT. 15 by the template 'for every input the law returns true; each argument reads behind the call as it read before'; 0 by the template 'total and deterministic' (their statements: YtkbielcbkpglhaaGreatDoorTotals.lean).
  GIVEN WITH THE SEED: the statements are not yours to turn. If you find one false, say at which input.
  Laid BY PROGRAM, IN A SANDBOX (cutbox-rows.mjs): the forced cells as the released guide's own fill.sh prints them over the translation c13320f7c35385d3… (all of the seat's roots in one cut). By AI agents, Wed Nov 11 2026. No macro, syntax, notation, axiom, sorry.
-/
import Derived.Test.YtkbielcbkpglhaaGreatDoorChecked
import GoSem.PinnedTables
import GoSem.Claim
import GoSem.ClaimJoined
import GoSem.ClaimMapViews
import Derived.JoinedTies
import Derived.KernelRfl
namespace Go.Proofs.YtkbielcbkpglhaaGreatDoor
/- THE CELL 'sum', in the pinned program and in every row, IS THE sha256 OF THE DUMP (.gsa) THAT YtkbielcbkpglhaaGreatDoorProg.lean LOADS. Nothing in Lean hashes anything: it is a label: what it is worth is what the hold of that sum in a sandbox is worth. -/
noncomputable def Tryz.pinned : Pinned := { name := "ytkbielcbkpglhaagreatdoor", sum := "c13320f7c35385d37457a945c60a0966ddbd60ed8abcab70578140424af79452", checked := Tryz.checked }
namespace Rows
def none {H : Type} : Left H := { results := [], args := [] }

/- WHAT THE LISTED PACKAGE-LEVEL VARIABLES READ AS WHEN THE CALL BEGINS. Each datum BY PROGRAM (the guide's laid-datum.mjs) off the statement by which the dump's own 'gosem.cut.vars' lays the variable. In a bare row this is a premise. The card (YtkbielcbkpglhaaGreatDoorCards.lean) ties it to the program's text. -/
def laid_math_bits_deBruijn32tab {H : Type} : DataW H := .agg [.lit (.int .u8 0), .lit (.int .u8 1), .lit (.int .u8 28), .lit (.int .u8 2), .lit (.int .u8 29), .lit (.int .u8 14), .lit (.int .u8 24), .lit (.int .u8 3), .lit (.int .u8 30), .lit (.int .u8 22), .lit (.int .u8 20), .lit (.int .u8 15), .lit (.int .u8 25), .lit (.int .u8 17), .lit (.int .u8 4), .lit (.int .u8 8), .lit (.int .u8 31), .lit (.int .u8 27), .lit (.int .u8 13), .lit (.int .u8 23), .lit (.int .u8 21), .lit (.int .u8 19), .lit (.int .u8 16), .lit (.int .u8 7), .lit (.int .u8 26), .lit (.int .u8 12), .lit (.int .u8 18), .lit (.int .u8 6), .lit (.int .u8 11), .lit (.int .u8 5), .lit (.int .u8 10), .lit (.int .u8 9)]
def laid_math_bits_deBruijn64tab {H : Type} : DataW H := .agg [.lit (.int .u8 0), .lit (.int .u8 1), .lit (.int .u8 56), .lit (.int .u8 2), .lit (.int .u8 57), .lit (.int .u8 49), .lit (.int .u8 28), .lit (.int .u8 3), .lit (.int .u8 61), .lit (.int .u8 58), .lit (.int .u8 42), .lit (.int .u8 50), .lit (.int .u8 38), .lit (.int .u8 29), .lit (.int .u8 17), .lit (.int .u8 4), .lit (.int .u8 62), .lit (.int .u8 47), .lit (.int .u8 59), .lit (.int .u8 36), .lit (.int .u8 45), .lit (.int .u8 43), .lit (.int .u8 51), .lit (.int .u8 22), .lit (.int .u8 53), .lit (.int .u8 39), .lit (.int .u8 33), .lit (.int .u8 30), .lit (.int .u8 24), .lit (.int .u8 18), .lit (.int .u8 12), .lit (.int .u8 5), .lit (.int .u8 63), .lit (.int .u8 55), .lit (.int .u8 48), .lit (.int .u8 27), .lit (.int .u8 60), .lit (.int .u8 41), .lit (.int .u8 37), .lit (.int .u8 16), .lit (.int .u8 46), .lit (.int .u8 35), .lit (.int .u8 44), .lit (.int .u8 21), .lit (.int .u8 52), .lit (.int .u8 32), .lit (.int .u8 23), .lit (.int .u8 11), .lit (.int .u8 54), .lit (.int .u8 26), .lit (.int .u8 40), .lit (.int .u8 15), .lit (.int .u8 34), .lit (.int .u8 20), .lit (.int .u8 31), .lit (.int .u8 10), .lit (.int .u8 25), .lit (.int .u8 14), .lit (.int .u8 19), .lit (.int .u8 9), .lit (.int .u8 13), .lit (.int .u8 8), .lit (.int .u8 7), .lit (.int .u8 6)]
def laid_internal_strconv_uint64pow10 {H : Type} : DataW H := .agg [.lit (.int .u64 1), .lit (.int .u64 10), .lit (.int .u64 100), .lit (.int .u64 1000), .lit (.int .u64 10000), .lit (.int .u64 100000), .lit (.int .u64 1000000), .lit (.int .u64 10000000), .lit (.int .u64 100000000), .lit (.int .u64 1000000000), .lit (.int .u64 10000000000), .lit (.int .u64 100000000000), .lit (.int .u64 1000000000000), .lit (.int .u64 10000000000000), .lit (.int .u64 100000000000000), .lit (.int .u64 1000000000000000), .lit (.int .u64 10000000000000000), .lit (.int .u64 100000000000000000), .lit (.int .u64 1000000000000000000), .lit (.int .u64 10000000000000000000)]
def laid_unicode_utf8_acceptRanges {H : Type} : DataW H := .agg [.agg [.lit (.int .u8 128), .lit (.int .u8 191)], .agg [.lit (.int .u8 160), .lit (.int .u8 191)], .agg [.lit (.int .u8 128), .lit (.int .u8 159)], .agg [.lit (.int .u8 144), .lit (.int .u8 191)], .agg [.lit (.int .u8 128), .lit (.int .u8 143)], .agg [.lit (.int .u8 0), .lit (.int .u8 0)], .agg [.lit (.int .u8 0), .lit (.int .u8 0)], .agg [.lit (.int .u8 0), .lit (.int .u8 0)], .agg [.lit (.int .u8 0), .lit (.int .u8 0)], .agg [.lit (.int .u8 0), .lit (.int .u8 0)], .agg [.lit (.int .u8 0), .lit (.int .u8 0)], .agg [.lit (.int .u8 0), .lit (.int .u8 0)], .agg [.lit (.int .u8 0), .lit (.int .u8 0)], .agg [.lit (.int .u8 0), .lit (.int .u8 0)], .agg [.lit (.int .u8 0), .lit (.int .u8 0)], .agg [.lit (.int .u8 0), .lit (.int .u8 0)]]
def laid_postbag_moment_lengths {H : Type} : DataW H := .agg [.lit (.int .i64 31), .lit (.int .i64 28), .lit (.int .i64 31), .lit (.int .i64 30), .lit (.int .i64 31), .lit (.int .i64 30), .lit (.int .i64 31), .lit (.int .i64 31), .lit (.int .i64 30), .lit (.int .i64 31), .lit (.int .i64 30), .lit (.int .i64 31)]
/-- One of Go's own tables, pinned by name: the form's constant. -/
def laid_unicode_utf8_first : DataW Unit := Go.Pinned.utf8First

/-- 'postbaglaw8.ThreadCards': WHATEVER THE INPUT: true; the input reads as it did. -/
def threadCardsSpec : ChangeSpec := { name := "threadCards", fn := fun _ => fun
  | [d1, d2] => { results := [.lit (.bool true)], args := [d1, d2] }
  | _ => none }
def threadCardsRow : OpenClaim := { program := "ytkbielcbkpglhaagreatdoor", sum := "c13320f7c35385d37457a945c60a0966ddbd60ed8abcab70578140424af79452", func := "postbag/postbaglaw8.ThreadCards", spec := "threadCards", inPlace := ["internal/bytealg.IndexByteString", "internal/bytealg.IndexString", "internal/abi.NoEscape", "internal/bytealg.abigen_runtime_cmpstring"], unfollowed := true, recurses := true, named := ["internal/bytealg.MaxLen", "unicode/utf8.first", "unicode/utf8.acceptRanges", "postbag/moment.lengths", "internal/strconv.uint64pow10", "math/bits.deBruijn32tab", "math/bits.deBruijn64tab"], apart := false, laid := [("math/bits.deBruijn32tab", laid_math_bits_deBruijn32tab), ("math/bits.deBruijn64tab", laid_math_bits_deBruijn64tab), ("internal/strconv.uint64pow10", laid_internal_strconv_uint64pow10), ("unicode/utf8.acceptRanges", laid_unicode_utf8_acceptRanges), ("postbag/moment.lengths", laid_postbag_moment_lengths), ("unicode/utf8.first", laid_unicode_utf8_first)] }
def ThreadCardsSaid : Prop := threadCardsRow.holds Tryz.pinned (OpenSpec.ofChange threadCardsSpec)

/-- ITS FALSE NEIGHBOUR: 'it returns false'. Refute it at one input. -/
def threadCardsWrong : ChangeSpec := { name := "threadCards", fn := fun _ => fun
  | [d1, d2] => { results := [.lit (.bool false)], args := [d1, d2] }
  | _ => none }
def ThreadCardsWrongFalsely : Prop := threadCardsRow.holds Tryz.pinned (OpenSpec.ofChange threadCardsWrong)

/-- 'postbaglaw8.ThreadBys': WHATEVER THE INPUT: true; the input reads as it did. -/
def threadBysSpec : ChangeSpec := { name := "threadBys", fn := fun _ => fun
  | [d1, d2] => { results := [.lit (.bool true)], args := [d1, d2] }
  | _ => none }
def threadBysRow : OpenClaim := { program := "ytkbielcbkpglhaagreatdoor", sum := "c13320f7c35385d37457a945c60a0966ddbd60ed8abcab70578140424af79452", func := "postbag/postbaglaw8.ThreadBys", spec := "threadBys", inPlace := ["internal/bytealg.abigen_runtime_cmpstring", "internal/bytealg.IndexByteString", "internal/bytealg.IndexString", "internal/abi.NoEscape"], unfollowed := true, recurses := true, named := ["internal/bytealg.MaxLen", "unicode/utf8.first", "unicode/utf8.acceptRanges", "postbag/moment.lengths", "internal/strconv.uint64pow10", "math/bits.deBruijn32tab", "math/bits.deBruijn64tab"], loops := true, apart := false, laid := [("math/bits.deBruijn32tab", laid_math_bits_deBruijn32tab), ("math/bits.deBruijn64tab", laid_math_bits_deBruijn64tab), ("internal/strconv.uint64pow10", laid_internal_strconv_uint64pow10), ("unicode/utf8.acceptRanges", laid_unicode_utf8_acceptRanges), ("postbag/moment.lengths", laid_postbag_moment_lengths), ("unicode/utf8.first", laid_unicode_utf8_first)] }
def ThreadBysSaid : Prop := threadBysRow.holds Tryz.pinned (OpenSpec.ofChange threadBysSpec)

/-- ITS FALSE NEIGHBOUR: 'it returns false'. Refute it at one input. -/
def threadBysWrong : ChangeSpec := { name := "threadBys", fn := fun _ => fun
  | [d1, d2] => { results := [.lit (.bool false)], args := [d1, d2] }
  | _ => none }
def ThreadBysWrongFalsely : Prop := threadBysRow.holds Tryz.pinned (OpenSpec.ofChange threadBysWrong)

/-- 'postbaglaw8.ThreadSorts': WHATEVER THE INPUT: true; the input reads as it did. -/
def threadSortsSpec : ChangeSpec := { name := "threadSorts", fn := fun _ => fun
  | [d1, d2, d3] => { results := [.lit (.bool true)], args := [d1, d2, d3] }
  | _ => none }
def threadSortsRow : OpenClaim := { program := "ytkbielcbkpglhaagreatdoor", sum := "c13320f7c35385d37457a945c60a0966ddbd60ed8abcab70578140424af79452", func := "postbag/postbaglaw8.ThreadSorts", spec := "threadSorts", inPlace := ["internal/bytealg.abigen_runtime_cmpstring", "internal/bytealg.IndexByteString", "internal/bytealg.IndexString", "internal/abi.NoEscape"], unfollowed := true, recurses := true, named := ["internal/bytealg.MaxLen", "unicode/utf8.first", "unicode/utf8.acceptRanges", "postbag/moment.lengths", "internal/strconv.uint64pow10", "math/bits.deBruijn32tab", "math/bits.deBruijn64tab"], apart := false, laid := [("math/bits.deBruijn32tab", laid_math_bits_deBruijn32tab), ("math/bits.deBruijn64tab", laid_math_bits_deBruijn64tab), ("internal/strconv.uint64pow10", laid_internal_strconv_uint64pow10), ("unicode/utf8.acceptRanges", laid_unicode_utf8_acceptRanges), ("postbag/moment.lengths", laid_postbag_moment_lengths), ("unicode/utf8.first", laid_unicode_utf8_first)] }
def ThreadSortsSaid : Prop := threadSortsRow.holds Tryz.pinned (OpenSpec.ofChange threadSortsSpec)

/-- ITS FALSE NEIGHBOUR: 'it returns false'. Refute it at one input. -/
def threadSortsWrong : ChangeSpec := { name := "threadSorts", fn := fun _ => fun
  | [d1, d2, d3] => { results := [.lit (.bool false)], args := [d1, d2, d3] }
  | _ => none }
def ThreadSortsWrongFalsely : Prop := threadSortsRow.holds Tryz.pinned (OpenSpec.ofChange threadSortsWrong)

/-- 'postbaglaw8.ThreadSubjects': WHATEVER THE INPUT: true; the input reads as it did. -/
def threadSubjectsSpec : ChangeSpec := { name := "threadSubjects", fn := fun _ => fun
  | [d1, d2] => { results := [.lit (.bool true)], args := [d1, d2] }
  | _ => none }
def threadSubjectsRow : OpenClaim := { program := "ytkbielcbkpglhaagreatdoor", sum := "c13320f7c35385d37457a945c60a0966ddbd60ed8abcab70578140424af79452", func := "postbag/postbaglaw8.ThreadSubjects", spec := "threadSubjects", inPlace := ["internal/bytealg.abigen_runtime_cmpstring", "internal/bytealg.IndexByteString", "internal/bytealg.IndexString", "internal/abi.NoEscape"], unfollowed := true, recurses := true, named := ["internal/bytealg.MaxLen", "unicode/utf8.first", "unicode/utf8.acceptRanges", "postbag/moment.lengths", "internal/strconv.uint64pow10", "math/bits.deBruijn32tab", "math/bits.deBruijn64tab"], apart := false, laid := [("math/bits.deBruijn32tab", laid_math_bits_deBruijn32tab), ("math/bits.deBruijn64tab", laid_math_bits_deBruijn64tab), ("internal/strconv.uint64pow10", laid_internal_strconv_uint64pow10), ("unicode/utf8.acceptRanges", laid_unicode_utf8_acceptRanges), ("postbag/moment.lengths", laid_postbag_moment_lengths), ("unicode/utf8.first", laid_unicode_utf8_first)] }
def ThreadSubjectsSaid : Prop := threadSubjectsRow.holds Tryz.pinned (OpenSpec.ofChange threadSubjectsSpec)

/-- ITS FALSE NEIGHBOUR: 'it returns false'. Refute it at one input. -/
def threadSubjectsWrong : ChangeSpec := { name := "threadSubjects", fn := fun _ => fun
  | [d1, d2] => { results := [.lit (.bool false)], args := [d1, d2] }
  | _ => none }
def ThreadSubjectsWrongFalsely : Prop := threadSubjectsRow.holds Tryz.pinned (OpenSpec.ofChange threadSubjectsWrong)

/-- 'postbaglaw8.ThreadReferences': WHATEVER THE INPUT: true; the input reads as it did. -/
def threadReferencesSpec : ChangeSpec := { name := "threadReferences", fn := fun _ => fun
  | [d1, d2] => { results := [.lit (.bool true)], args := [d1, d2] }
  | _ => none }
def threadReferencesRow : OpenClaim := { program := "ytkbielcbkpglhaagreatdoor", sum := "c13320f7c35385d37457a945c60a0966ddbd60ed8abcab70578140424af79452", func := "postbag/postbaglaw8.ThreadReferences", spec := "threadReferences", inPlace := ["internal/bytealg.abigen_runtime_cmpstring", "internal/bytealg.IndexByteString", "internal/bytealg.IndexString", "internal/abi.NoEscape"], unfollowed := true, recurses := true, named := ["internal/bytealg.MaxLen", "unicode/utf8.first", "unicode/utf8.acceptRanges", "postbag/moment.lengths", "internal/strconv.uint64pow10", "math/bits.deBruijn32tab", "math/bits.deBruijn64tab"], apart := false, laid := [("math/bits.deBruijn32tab", laid_math_bits_deBruijn32tab), ("math/bits.deBruijn64tab", laid_math_bits_deBruijn64tab), ("internal/strconv.uint64pow10", laid_internal_strconv_uint64pow10), ("unicode/utf8.acceptRanges", laid_unicode_utf8_acceptRanges), ("postbag/moment.lengths", laid_postbag_moment_lengths), ("unicode/utf8.first", laid_unicode_utf8_first)] }
def ThreadReferencesSaid : Prop := threadReferencesRow.holds Tryz.pinned (OpenSpec.ofChange threadReferencesSpec)

/-- ITS FALSE NEIGHBOUR: 'it returns false'. Refute it at one input. -/
def threadReferencesWrong : ChangeSpec := { name := "threadReferences", fn := fun _ => fun
  | [d1, d2] => { results := [.lit (.bool false)], args := [d1, d2] }
  | _ => none }
def ThreadReferencesWrongFalsely : Prop := threadReferencesRow.holds Tryz.pinned (OpenSpec.ofChange threadReferencesWrong)

/-- 'postbaglaw8.ThreadLines': WHATEVER THE INPUT: true; the input reads as it did. -/
def threadLinesSpec : ChangeSpec := { name := "threadLines", fn := fun _ => fun
  | [d1, d2] => { results := [.lit (.bool true)], args := [d1, d2] }
  | _ => none }
def threadLinesRow : OpenClaim := { program := "ytkbielcbkpglhaagreatdoor", sum := "c13320f7c35385d37457a945c60a0966ddbd60ed8abcab70578140424af79452", func := "postbag/postbaglaw8.ThreadLines", spec := "threadLines", inPlace := ["internal/bytealg.IndexByteString", "internal/bytealg.IndexString", "internal/abi.NoEscape", "internal/bytealg.abigen_runtime_cmpstring"], unfollowed := true, recurses := true, named := ["internal/bytealg.MaxLen", "unicode/utf8.first", "unicode/utf8.acceptRanges", "postbag/moment.lengths", "internal/strconv.uint64pow10", "math/bits.deBruijn32tab", "math/bits.deBruijn64tab"], loops := true, apart := false, laid := [("math/bits.deBruijn32tab", laid_math_bits_deBruijn32tab), ("math/bits.deBruijn64tab", laid_math_bits_deBruijn64tab), ("internal/strconv.uint64pow10", laid_internal_strconv_uint64pow10), ("unicode/utf8.acceptRanges", laid_unicode_utf8_acceptRanges), ("postbag/moment.lengths", laid_postbag_moment_lengths), ("unicode/utf8.first", laid_unicode_utf8_first)] }
def ThreadLinesSaid : Prop := threadLinesRow.holds Tryz.pinned (OpenSpec.ofChange threadLinesSpec)

/-- ITS FALSE NEIGHBOUR: 'it returns false'. Refute it at one input. -/
def threadLinesWrong : ChangeSpec := { name := "threadLines", fn := fun _ => fun
  | [d1, d2] => { results := [.lit (.bool false)], args := [d1, d2] }
  | _ => none }
def ThreadLinesWrongFalsely : Prop := threadLinesRow.holds Tryz.pinned (OpenSpec.ofChange threadLinesWrong)

/-- 'postbaglaw8.ThreadReads': WHATEVER THE INPUT: true; the input reads as it did. -/
def threadReadsSpec : ChangeSpec := { name := "threadReads", fn := fun _ => fun
  | [d1, d2] => { results := [.lit (.bool true)], args := [d1, d2] }
  | _ => none }
def threadReadsRow : OpenClaim := { program := "ytkbielcbkpglhaagreatdoor", sum := "c13320f7c35385d37457a945c60a0966ddbd60ed8abcab70578140424af79452", func := "postbag/postbaglaw8.ThreadReads", spec := "threadReads", inPlace := ["internal/abi.NoEscape", "internal/bytealg.IndexByteString", "internal/bytealg.IndexString", "internal/bytealg.abigen_runtime_cmpstring"], unfollowed := true, recurses := true, named := ["internal/strconv.uint64pow10", "math/bits.deBruijn32tab", "math/bits.deBruijn64tab", "internal/bytealg.MaxLen", "unicode/utf8.first", "unicode/utf8.acceptRanges", "postbag/moment.lengths"], apart := false, laid := [("math/bits.deBruijn32tab", laid_math_bits_deBruijn32tab), ("math/bits.deBruijn64tab", laid_math_bits_deBruijn64tab), ("internal/strconv.uint64pow10", laid_internal_strconv_uint64pow10), ("unicode/utf8.acceptRanges", laid_unicode_utf8_acceptRanges), ("postbag/moment.lengths", laid_postbag_moment_lengths), ("unicode/utf8.first", laid_unicode_utf8_first)] }
def ThreadReadsSaid : Prop := threadReadsRow.holds Tryz.pinned (OpenSpec.ofChange threadReadsSpec)

/-- ITS FALSE NEIGHBOUR: 'it returns false'. Refute it at one input. -/
def threadReadsWrong : ChangeSpec := { name := "threadReads", fn := fun _ => fun
  | [d1, d2] => { results := [.lit (.bool false)], args := [d1, d2] }
  | _ => none }
def ThreadReadsWrongFalsely : Prop := threadReadsRow.holds Tryz.pinned (OpenSpec.ofChange threadReadsWrong)

/-- 'postbaglaw8.ThreadStable': WHATEVER THE INPUT: true; the input reads as it did. -/
def threadStableSpec : ChangeSpec := { name := "threadStable", fn := fun _ => fun
  | [d1, d2, d3] => { results := [.lit (.bool true)], args := [d1, d2, d3] }
  | _ => none }
def threadStableRow : OpenClaim := { program := "ytkbielcbkpglhaagreatdoor", sum := "c13320f7c35385d37457a945c60a0966ddbd60ed8abcab70578140424af79452", func := "postbag/postbaglaw8.ThreadStable", spec := "threadStable", inPlace := ["internal/bytealg.IndexByteString", "internal/bytealg.IndexString", "internal/abi.NoEscape", "internal/bytealg.abigen_runtime_cmpstring"], unfollowed := true, recurses := true, named := ["internal/bytealg.MaxLen", "unicode/utf8.first", "unicode/utf8.acceptRanges", "postbag/moment.lengths", "internal/strconv.uint64pow10", "math/bits.deBruijn32tab", "math/bits.deBruijn64tab"], apart := false, laid := [("math/bits.deBruijn32tab", laid_math_bits_deBruijn32tab), ("math/bits.deBruijn64tab", laid_math_bits_deBruijn64tab), ("internal/strconv.uint64pow10", laid_internal_strconv_uint64pow10), ("unicode/utf8.acceptRanges", laid_unicode_utf8_acceptRanges), ("postbag/moment.lengths", laid_postbag_moment_lengths), ("unicode/utf8.first", laid_unicode_utf8_first)] }
def ThreadStableSaid : Prop := threadStableRow.holds Tryz.pinned (OpenSpec.ofChange threadStableSpec)

/-- ITS FALSE NEIGHBOUR: 'it returns false'. Refute it at one input. -/
def threadStableWrong : ChangeSpec := { name := "threadStable", fn := fun _ => fun
  | [d1, d2, d3] => { results := [.lit (.bool false)], args := [d1, d2, d3] }
  | _ => none }
def ThreadStableWrongFalsely : Prop := threadStableRow.holds Tryz.pinned (OpenSpec.ofChange threadStableWrong)

/-- 'postbaglaw8.ThreadTurned': WHATEVER THE INPUT: true; the input reads as it did. -/
def threadTurnedSpec : ChangeSpec := { name := "threadTurned", fn := fun _ => fun
  | [d1, d2] => { results := [.lit (.bool true)], args := [d1, d2] }
  | _ => none }
def threadTurnedRow : OpenClaim := { program := "ytkbielcbkpglhaagreatdoor", sum := "c13320f7c35385d37457a945c60a0966ddbd60ed8abcab70578140424af79452", func := "postbag/postbaglaw8.ThreadTurned", spec := "threadTurned", inPlace := ["internal/bytealg.IndexByteString", "internal/bytealg.IndexString", "internal/abi.NoEscape", "internal/bytealg.abigen_runtime_cmpstring"], unfollowed := true, recurses := true, named := ["internal/bytealg.MaxLen", "unicode/utf8.first", "unicode/utf8.acceptRanges", "postbag/moment.lengths", "internal/strconv.uint64pow10", "math/bits.deBruijn32tab", "math/bits.deBruijn64tab"], apart := false, laid := [("math/bits.deBruijn32tab", laid_math_bits_deBruijn32tab), ("math/bits.deBruijn64tab", laid_math_bits_deBruijn64tab), ("internal/strconv.uint64pow10", laid_internal_strconv_uint64pow10), ("unicode/utf8.acceptRanges", laid_unicode_utf8_acceptRanges), ("postbag/moment.lengths", laid_postbag_moment_lengths), ("unicode/utf8.first", laid_unicode_utf8_first)] }
def ThreadTurnedSaid : Prop := threadTurnedRow.holds Tryz.pinned (OpenSpec.ofChange threadTurnedSpec)

/-- ITS FALSE NEIGHBOUR: 'it returns false'. Refute it at one input. -/
def threadTurnedWrong : ChangeSpec := { name := "threadTurned", fn := fun _ => fun
  | [d1, d2] => { results := [.lit (.bool false)], args := [d1, d2] }
  | _ => none }
def ThreadTurnedWrongFalsely : Prop := threadTurnedRow.holds Tryz.pinned (OpenSpec.ofChange threadTurnedWrong)

/-- 'postbaglaw8.ThreadAll': WHATEVER THE INPUT: true; the input reads as it did. -/
def threadAllSpec : ChangeSpec := { name := "threadAll", fn := fun _ => fun
  | [d] => { results := [.lit (.bool true)], args := [d] }
  | _ => none }
def threadAllRow : OpenClaim := { program := "ytkbielcbkpglhaagreatdoor", sum := "c13320f7c35385d37457a945c60a0966ddbd60ed8abcab70578140424af79452", func := "postbag/postbaglaw8.ThreadAll", spec := "threadAll", inPlace := ["internal/bytealg.IndexByteString", "internal/bytealg.IndexString", "internal/abi.NoEscape", "internal/bytealg.abigen_runtime_cmpstring"], unfollowed := true, recurses := true, named := ["internal/bytealg.MaxLen", "unicode/utf8.first", "unicode/utf8.acceptRanges", "postbag/moment.lengths", "internal/strconv.uint64pow10", "math/bits.deBruijn32tab", "math/bits.deBruijn64tab"], apart := false, laid := [("math/bits.deBruijn32tab", laid_math_bits_deBruijn32tab), ("math/bits.deBruijn64tab", laid_math_bits_deBruijn64tab), ("internal/strconv.uint64pow10", laid_internal_strconv_uint64pow10), ("unicode/utf8.acceptRanges", laid_unicode_utf8_acceptRanges), ("postbag/moment.lengths", laid_postbag_moment_lengths), ("unicode/utf8.first", laid_unicode_utf8_first)] }
def ThreadAllSaid : Prop := threadAllRow.holds Tryz.pinned (OpenSpec.ofChange threadAllSpec)

/-- ITS FALSE NEIGHBOUR: 'it returns false'. Refute it at one input. -/
def threadAllWrong : ChangeSpec := { name := "threadAll", fn := fun _ => fun
  | [d] => { results := [.lit (.bool false)], args := [d] }
  | _ => none }
def ThreadAllWrongFalsely : Prop := threadAllRow.holds Tryz.pinned (OpenSpec.ofChange threadAllWrong)

/-- 'postbaglaw8.ThreadUnordered': WHATEVER THE INPUT: true; the input reads as it did. -/
def threadUnorderedSpec : ChangeSpec := { name := "threadUnordered", fn := fun _ => fun
  | [d1, d2] => { results := [.lit (.bool true)], args := [d1, d2] }
  | _ => none }
def threadUnorderedRow : OpenClaim := { program := "ytkbielcbkpglhaagreatdoor", sum := "c13320f7c35385d37457a945c60a0966ddbd60ed8abcab70578140424af79452", func := "postbag/postbaglaw8.ThreadUnordered", spec := "threadUnordered", inPlace := ["internal/bytealg.IndexByteString", "internal/bytealg.IndexString", "internal/abi.NoEscape", "internal/bytealg.abigen_runtime_cmpstring"], unfollowed := true, recurses := true, named := ["internal/bytealg.MaxLen", "unicode/utf8.first", "unicode/utf8.acceptRanges", "postbag/moment.lengths", "internal/strconv.uint64pow10", "math/bits.deBruijn32tab", "math/bits.deBruijn64tab"], apart := false, laid := [("math/bits.deBruijn32tab", laid_math_bits_deBruijn32tab), ("math/bits.deBruijn64tab", laid_math_bits_deBruijn64tab), ("internal/strconv.uint64pow10", laid_internal_strconv_uint64pow10), ("unicode/utf8.acceptRanges", laid_unicode_utf8_acceptRanges), ("postbag/moment.lengths", laid_postbag_moment_lengths), ("unicode/utf8.first", laid_unicode_utf8_first)] }
def ThreadUnorderedSaid : Prop := threadUnorderedRow.holds Tryz.pinned (OpenSpec.ofChange threadUnorderedSpec)

/-- ITS FALSE NEIGHBOUR: 'it returns false'. Refute it at one input. -/
def threadUnorderedWrong : ChangeSpec := { name := "threadUnordered", fn := fun _ => fun
  | [d1, d2] => { results := [.lit (.bool false)], args := [d1, d2] }
  | _ => none }
def ThreadUnorderedWrongFalsely : Prop := threadUnorderedRow.holds Tryz.pinned (OpenSpec.ofChange threadUnorderedWrong)

/-- 'postbaglaw8.ThreadHangs': WHATEVER THE INPUT: true; the input reads as it did. -/
def threadHangsSpec : ChangeSpec := { name := "threadHangs", fn := fun _ => fun
  | [d1, d2] => { results := [.lit (.bool true)], args := [d1, d2] }
  | _ => none }
def threadHangsRow : OpenClaim := { program := "ytkbielcbkpglhaagreatdoor", sum := "c13320f7c35385d37457a945c60a0966ddbd60ed8abcab70578140424af79452", func := "postbag/postbaglaw8.ThreadHangs", spec := "threadHangs", inPlace := ["internal/bytealg.IndexByteString", "internal/bytealg.IndexString", "internal/abi.NoEscape", "internal/bytealg.abigen_runtime_cmpstring"], unfollowed := true, recurses := true, named := ["internal/bytealg.MaxLen", "unicode/utf8.first", "unicode/utf8.acceptRanges", "postbag/moment.lengths", "internal/strconv.uint64pow10", "math/bits.deBruijn32tab", "math/bits.deBruijn64tab"], apart := false, laid := [("math/bits.deBruijn32tab", laid_math_bits_deBruijn32tab), ("math/bits.deBruijn64tab", laid_math_bits_deBruijn64tab), ("internal/strconv.uint64pow10", laid_internal_strconv_uint64pow10), ("unicode/utf8.acceptRanges", laid_unicode_utf8_acceptRanges), ("postbag/moment.lengths", laid_postbag_moment_lengths), ("unicode/utf8.first", laid_unicode_utf8_first)] }
def ThreadHangsSaid : Prop := threadHangsRow.holds Tryz.pinned (OpenSpec.ofChange threadHangsSpec)

/-- ITS FALSE NEIGHBOUR: 'it returns false'. Refute it at one input. -/
def threadHangsWrong : ChangeSpec := { name := "threadHangs", fn := fun _ => fun
  | [d1, d2] => { results := [.lit (.bool false)], args := [d1, d2] }
  | _ => none }
def ThreadHangsWrongFalsely : Prop := threadHangsRow.holds Tryz.pinned (OpenSpec.ofChange threadHangsWrong)

/-- 'postbaglaw8.ThreadAround': WHATEVER THE INPUT: true; the input reads as it did. -/
def threadAroundSpec : ChangeSpec := { name := "threadAround", fn := fun _ => fun
  | [d1, d2] => { results := [.lit (.bool true)], args := [d1, d2] }
  | _ => none }
def threadAroundRow : OpenClaim := { program := "ytkbielcbkpglhaagreatdoor", sum := "c13320f7c35385d37457a945c60a0966ddbd60ed8abcab70578140424af79452", func := "postbag/postbaglaw8.ThreadAround", spec := "threadAround", inPlace := ["internal/bytealg.IndexByteString", "internal/bytealg.IndexString", "internal/abi.NoEscape", "internal/bytealg.abigen_runtime_cmpstring"], unfollowed := true, recurses := true, named := ["internal/bytealg.MaxLen", "unicode/utf8.first", "unicode/utf8.acceptRanges", "postbag/moment.lengths", "internal/strconv.uint64pow10", "math/bits.deBruijn32tab", "math/bits.deBruijn64tab"], apart := false, laid := [("math/bits.deBruijn32tab", laid_math_bits_deBruijn32tab), ("math/bits.deBruijn64tab", laid_math_bits_deBruijn64tab), ("internal/strconv.uint64pow10", laid_internal_strconv_uint64pow10), ("unicode/utf8.acceptRanges", laid_unicode_utf8_acceptRanges), ("postbag/moment.lengths", laid_postbag_moment_lengths), ("unicode/utf8.first", laid_unicode_utf8_first)] }
def ThreadAroundSaid : Prop := threadAroundRow.holds Tryz.pinned (OpenSpec.ofChange threadAroundSpec)

/-- ITS FALSE NEIGHBOUR: 'it returns false'. Refute it at one input. -/
def threadAroundWrong : ChangeSpec := { name := "threadAround", fn := fun _ => fun
  | [d1, d2] => { results := [.lit (.bool false)], args := [d1, d2] }
  | _ => none }
def ThreadAroundWrongFalsely : Prop := threadAroundRow.holds Tryz.pinned (OpenSpec.ofChange threadAroundWrong)

/-- 'postbaglaw8.ThreadSubjected': WHATEVER THE INPUT: true; the input reads as it did. -/
def threadSubjectedSpec : ChangeSpec := { name := "threadSubjected", fn := fun _ => fun
  | [d] => { results := [.lit (.bool true)], args := [d] }
  | _ => none }
def threadSubjectedRow : OpenClaim := { program := "ytkbielcbkpglhaagreatdoor", sum := "c13320f7c35385d37457a945c60a0966ddbd60ed8abcab70578140424af79452", func := "postbag/postbaglaw8.ThreadSubjected", spec := "threadSubjected", inPlace := ["internal/bytealg.IndexByteString", "internal/bytealg.IndexString", "internal/abi.NoEscape", "internal/bytealg.abigen_runtime_cmpstring"], unfollowed := true, recurses := true, named := ["internal/bytealg.MaxLen", "unicode/utf8.first", "unicode/utf8.acceptRanges", "postbag/moment.lengths", "internal/strconv.uint64pow10", "math/bits.deBruijn32tab", "math/bits.deBruijn64tab"], apart := false, laid := [("math/bits.deBruijn32tab", laid_math_bits_deBruijn32tab), ("math/bits.deBruijn64tab", laid_math_bits_deBruijn64tab), ("internal/strconv.uint64pow10", laid_internal_strconv_uint64pow10), ("unicode/utf8.acceptRanges", laid_unicode_utf8_acceptRanges), ("postbag/moment.lengths", laid_postbag_moment_lengths), ("unicode/utf8.first", laid_unicode_utf8_first)] }
def ThreadSubjectedSaid : Prop := threadSubjectedRow.holds Tryz.pinned (OpenSpec.ofChange threadSubjectedSpec)

/-- ITS FALSE NEIGHBOUR: 'it returns false'. Refute it at one input. -/
def threadSubjectedWrong : ChangeSpec := { name := "threadSubjected", fn := fun _ => fun
  | [d] => { results := [.lit (.bool false)], args := [d] }
  | _ => none }
def ThreadSubjectedWrongFalsely : Prop := threadSubjectedRow.holds Tryz.pinned (OpenSpec.ofChange threadSubjectedWrong)

/-- 'postbaglaw8.ThreadKeeps': WHATEVER THE INPUT: true; the input reads as it did. -/
def threadKeepsSpec : ChangeSpec := { name := "threadKeeps", fn := fun _ => fun
  | [d1, d2, d3, d4, d5] => { results := [.lit (.bool true)], args := [d1, d2, d3, d4, d5] }
  | _ => none }
def threadKeepsRow : OpenClaim := { program := "ytkbielcbkpglhaagreatdoor", sum := "c13320f7c35385d37457a945c60a0966ddbd60ed8abcab70578140424af79452", func := "postbag/postbaglaw8.ThreadKeeps", spec := "threadKeeps", inPlace := ["internal/bytealg.IndexByteString", "internal/bytealg.IndexString", "internal/abi.NoEscape", "internal/bytealg.abigen_runtime_cmpstring"], unfollowed := true, recurses := true, named := ["internal/bytealg.MaxLen", "unicode/utf8.first", "unicode/utf8.acceptRanges", "postbag/moment.lengths", "internal/strconv.uint64pow10", "math/bits.deBruijn32tab", "math/bits.deBruijn64tab"], loops := true, apart := false, laid := [("math/bits.deBruijn32tab", laid_math_bits_deBruijn32tab), ("math/bits.deBruijn64tab", laid_math_bits_deBruijn64tab), ("internal/strconv.uint64pow10", laid_internal_strconv_uint64pow10), ("unicode/utf8.acceptRanges", laid_unicode_utf8_acceptRanges), ("postbag/moment.lengths", laid_postbag_moment_lengths), ("unicode/utf8.first", laid_unicode_utf8_first)] }
def ThreadKeepsSaid : Prop := threadKeepsRow.holds Tryz.pinned (OpenSpec.ofChange threadKeepsSpec)

/-- ITS FALSE NEIGHBOUR: 'it returns false'. Refute it at one input. -/
def threadKeepsWrong : ChangeSpec := { name := "threadKeeps", fn := fun _ => fun
  | [d1, d2, d3, d4, d5] => { results := [.lit (.bool false)], args := [d1, d2, d3, d4, d5] }
  | _ => none }
def ThreadKeepsWrongFalsely : Prop := threadKeepsRow.holds Tryz.pinned (OpenSpec.ofChange threadKeepsWrong)

/- THE SECOND FORM. 'bulk': how many values and letters a reading holds, each counted each time it is reached (what is shared counts as often as it is met; a slice's spare places count too). A statement '..UptoSaid' is the law's where the arguments, and the package variables that the reading takes, are together of bulk at most 1048576: NARROWER than '..Said'. Prove '..Said' where nothing that the law and all that it calls make is longer than what came in: it says more and counts as full. Else prove '..UptoSaid'. A law counts once. -/
mutual
def uptoBulk {H : Type} : DataW H → Nat
  | .lit (.string bytes) => bytes.length + 1
  | .lit _ => 1
  | .nil => 1
  | .ptr d => uptoBulk d + 1
  | .slice elems spare => uptoBulkAll elems + uptoBulkAll spare + 1
  | .agg parts => uptoBulkAll parts + 1
  | .iface _ d => uptoBulk d + 1
  | .map entries => uptoBulkEntries entries + 1
  | .held _ => 1
def uptoBulkAll {H : Type} : List (DataW H) → Nat
  | [] => 0
  | d :: r => uptoBulk d + uptoBulkAll r
def uptoBulkEntries {H : Type} : List (Lit × DataW H) → Nat
  | [] => 0
  | x :: r => uptoBulkEntry x + uptoBulkEntries r
def uptoBulkEntry {H : Type} : Lit × DataW H → Nat
  | (.string bytes, d) => bytes.length + uptoBulk d + 1
  | (_, d) => uptoBulk d + 1
 end
def uptoSmall : (H : Type) → List (DataW H) → Bool := fun _ ds => decide (uptoBulkAll ds ≤ 1048576)
def OpenSpec.upto (s : _root_.Go.ChangeSpec) : _root_.Go.OpenSpec := { _root_.Go.OpenSpec.ofChange s with cond := some uptoSmall }

/-- 'postbaglaw8.ThreadCards', WHERE WHAT IT READS IS OF BULK AT MOST 1048576: true; the input reads as it did. -/
def threadCardsUptoRow : OpenClaim := { program := "ytkbielcbkpglhaagreatdoor", sum := "c13320f7c35385d37457a945c60a0966ddbd60ed8abcab70578140424af79452", func := "postbag/postbaglaw8.ThreadCards", spec := "threadCards", inPlace := ["internal/bytealg.IndexByteString", "internal/bytealg.IndexString", "internal/abi.NoEscape", "internal/bytealg.abigen_runtime_cmpstring"], unfollowed := true, recurses := true, named := ["internal/bytealg.MaxLen", "unicode/utf8.first", "unicode/utf8.acceptRanges", "postbag/moment.lengths", "internal/strconv.uint64pow10", "math/bits.deBruijn32tab", "math/bits.deBruijn64tab"], apart := false, laid := [("math/bits.deBruijn32tab", laid_math_bits_deBruijn32tab), ("math/bits.deBruijn64tab", laid_math_bits_deBruijn64tab), ("internal/strconv.uint64pow10", laid_internal_strconv_uint64pow10), ("unicode/utf8.acceptRanges", laid_unicode_utf8_acceptRanges), ("postbag/moment.lengths", laid_postbag_moment_lengths), ("unicode/utf8.first", laid_unicode_utf8_first)], narrowed := true }
def ThreadCardsUptoSaid : Prop := threadCardsUptoRow.holds Tryz.pinned (OpenSpec.upto threadCardsSpec)

/-- 'postbaglaw8.ThreadBys', WHERE WHAT IT READS IS OF BULK AT MOST 1048576: true; the input reads as it did. -/
def threadBysUptoRow : OpenClaim := { program := "ytkbielcbkpglhaagreatdoor", sum := "c13320f7c35385d37457a945c60a0966ddbd60ed8abcab70578140424af79452", func := "postbag/postbaglaw8.ThreadBys", spec := "threadBys", inPlace := ["internal/bytealg.abigen_runtime_cmpstring", "internal/bytealg.IndexByteString", "internal/bytealg.IndexString", "internal/abi.NoEscape"], unfollowed := true, recurses := true, named := ["internal/bytealg.MaxLen", "unicode/utf8.first", "unicode/utf8.acceptRanges", "postbag/moment.lengths", "internal/strconv.uint64pow10", "math/bits.deBruijn32tab", "math/bits.deBruijn64tab"], loops := true, apart := false, laid := [("math/bits.deBruijn32tab", laid_math_bits_deBruijn32tab), ("math/bits.deBruijn64tab", laid_math_bits_deBruijn64tab), ("internal/strconv.uint64pow10", laid_internal_strconv_uint64pow10), ("unicode/utf8.acceptRanges", laid_unicode_utf8_acceptRanges), ("postbag/moment.lengths", laid_postbag_moment_lengths), ("unicode/utf8.first", laid_unicode_utf8_first)], narrowed := true }
def ThreadBysUptoSaid : Prop := threadBysUptoRow.holds Tryz.pinned (OpenSpec.upto threadBysSpec)

/-- 'postbaglaw8.ThreadSorts', WHERE WHAT IT READS IS OF BULK AT MOST 1048576: true; the input reads as it did. -/
def threadSortsUptoRow : OpenClaim := { program := "ytkbielcbkpglhaagreatdoor", sum := "c13320f7c35385d37457a945c60a0966ddbd60ed8abcab70578140424af79452", func := "postbag/postbaglaw8.ThreadSorts", spec := "threadSorts", inPlace := ["internal/bytealg.abigen_runtime_cmpstring", "internal/bytealg.IndexByteString", "internal/bytealg.IndexString", "internal/abi.NoEscape"], unfollowed := true, recurses := true, named := ["internal/bytealg.MaxLen", "unicode/utf8.first", "unicode/utf8.acceptRanges", "postbag/moment.lengths", "internal/strconv.uint64pow10", "math/bits.deBruijn32tab", "math/bits.deBruijn64tab"], apart := false, laid := [("math/bits.deBruijn32tab", laid_math_bits_deBruijn32tab), ("math/bits.deBruijn64tab", laid_math_bits_deBruijn64tab), ("internal/strconv.uint64pow10", laid_internal_strconv_uint64pow10), ("unicode/utf8.acceptRanges", laid_unicode_utf8_acceptRanges), ("postbag/moment.lengths", laid_postbag_moment_lengths), ("unicode/utf8.first", laid_unicode_utf8_first)], narrowed := true }
def ThreadSortsUptoSaid : Prop := threadSortsUptoRow.holds Tryz.pinned (OpenSpec.upto threadSortsSpec)

/-- 'postbaglaw8.ThreadSubjects', WHERE WHAT IT READS IS OF BULK AT MOST 1048576: true; the input reads as it did. -/
def threadSubjectsUptoRow : OpenClaim := { program := "ytkbielcbkpglhaagreatdoor", sum := "c13320f7c35385d37457a945c60a0966ddbd60ed8abcab70578140424af79452", func := "postbag/postbaglaw8.ThreadSubjects", spec := "threadSubjects", inPlace := ["internal/bytealg.abigen_runtime_cmpstring", "internal/bytealg.IndexByteString", "internal/bytealg.IndexString", "internal/abi.NoEscape"], unfollowed := true, recurses := true, named := ["internal/bytealg.MaxLen", "unicode/utf8.first", "unicode/utf8.acceptRanges", "postbag/moment.lengths", "internal/strconv.uint64pow10", "math/bits.deBruijn32tab", "math/bits.deBruijn64tab"], apart := false, laid := [("math/bits.deBruijn32tab", laid_math_bits_deBruijn32tab), ("math/bits.deBruijn64tab", laid_math_bits_deBruijn64tab), ("internal/strconv.uint64pow10", laid_internal_strconv_uint64pow10), ("unicode/utf8.acceptRanges", laid_unicode_utf8_acceptRanges), ("postbag/moment.lengths", laid_postbag_moment_lengths), ("unicode/utf8.first", laid_unicode_utf8_first)], narrowed := true }
def ThreadSubjectsUptoSaid : Prop := threadSubjectsUptoRow.holds Tryz.pinned (OpenSpec.upto threadSubjectsSpec)

/-- 'postbaglaw8.ThreadReferences', WHERE WHAT IT READS IS OF BULK AT MOST 1048576: true; the input reads as it did. -/
def threadReferencesUptoRow : OpenClaim := { program := "ytkbielcbkpglhaagreatdoor", sum := "c13320f7c35385d37457a945c60a0966ddbd60ed8abcab70578140424af79452", func := "postbag/postbaglaw8.ThreadReferences", spec := "threadReferences", inPlace := ["internal/bytealg.abigen_runtime_cmpstring", "internal/bytealg.IndexByteString", "internal/bytealg.IndexString", "internal/abi.NoEscape"], unfollowed := true, recurses := true, named := ["internal/bytealg.MaxLen", "unicode/utf8.first", "unicode/utf8.acceptRanges", "postbag/moment.lengths", "internal/strconv.uint64pow10", "math/bits.deBruijn32tab", "math/bits.deBruijn64tab"], apart := false, laid := [("math/bits.deBruijn32tab", laid_math_bits_deBruijn32tab), ("math/bits.deBruijn64tab", laid_math_bits_deBruijn64tab), ("internal/strconv.uint64pow10", laid_internal_strconv_uint64pow10), ("unicode/utf8.acceptRanges", laid_unicode_utf8_acceptRanges), ("postbag/moment.lengths", laid_postbag_moment_lengths), ("unicode/utf8.first", laid_unicode_utf8_first)], narrowed := true }
def ThreadReferencesUptoSaid : Prop := threadReferencesUptoRow.holds Tryz.pinned (OpenSpec.upto threadReferencesSpec)

/-- 'postbaglaw8.ThreadLines', WHERE WHAT IT READS IS OF BULK AT MOST 1048576: true; the input reads as it did. -/
def threadLinesUptoRow : OpenClaim := { program := "ytkbielcbkpglhaagreatdoor", sum := "c13320f7c35385d37457a945c60a0966ddbd60ed8abcab70578140424af79452", func := "postbag/postbaglaw8.ThreadLines", spec := "threadLines", inPlace := ["internal/bytealg.IndexByteString", "internal/bytealg.IndexString", "internal/abi.NoEscape", "internal/bytealg.abigen_runtime_cmpstring"], unfollowed := true, recurses := true, named := ["internal/bytealg.MaxLen", "unicode/utf8.first", "unicode/utf8.acceptRanges", "postbag/moment.lengths", "internal/strconv.uint64pow10", "math/bits.deBruijn32tab", "math/bits.deBruijn64tab"], loops := true, apart := false, laid := [("math/bits.deBruijn32tab", laid_math_bits_deBruijn32tab), ("math/bits.deBruijn64tab", laid_math_bits_deBruijn64tab), ("internal/strconv.uint64pow10", laid_internal_strconv_uint64pow10), ("unicode/utf8.acceptRanges", laid_unicode_utf8_acceptRanges), ("postbag/moment.lengths", laid_postbag_moment_lengths), ("unicode/utf8.first", laid_unicode_utf8_first)], narrowed := true }
def ThreadLinesUptoSaid : Prop := threadLinesUptoRow.holds Tryz.pinned (OpenSpec.upto threadLinesSpec)

/-- 'postbaglaw8.ThreadReads', WHERE WHAT IT READS IS OF BULK AT MOST 1048576: true; the input reads as it did. -/
def threadReadsUptoRow : OpenClaim := { program := "ytkbielcbkpglhaagreatdoor", sum := "c13320f7c35385d37457a945c60a0966ddbd60ed8abcab70578140424af79452", func := "postbag/postbaglaw8.ThreadReads", spec := "threadReads", inPlace := ["internal/abi.NoEscape", "internal/bytealg.IndexByteString", "internal/bytealg.IndexString", "internal/bytealg.abigen_runtime_cmpstring"], unfollowed := true, recurses := true, named := ["internal/strconv.uint64pow10", "math/bits.deBruijn32tab", "math/bits.deBruijn64tab", "internal/bytealg.MaxLen", "unicode/utf8.first", "unicode/utf8.acceptRanges", "postbag/moment.lengths"], apart := false, laid := [("math/bits.deBruijn32tab", laid_math_bits_deBruijn32tab), ("math/bits.deBruijn64tab", laid_math_bits_deBruijn64tab), ("internal/strconv.uint64pow10", laid_internal_strconv_uint64pow10), ("unicode/utf8.acceptRanges", laid_unicode_utf8_acceptRanges), ("postbag/moment.lengths", laid_postbag_moment_lengths), ("unicode/utf8.first", laid_unicode_utf8_first)], narrowed := true }
def ThreadReadsUptoSaid : Prop := threadReadsUptoRow.holds Tryz.pinned (OpenSpec.upto threadReadsSpec)

/-- 'postbaglaw8.ThreadStable', WHERE WHAT IT READS IS OF BULK AT MOST 1048576: true; the input reads as it did. -/
def threadStableUptoRow : OpenClaim := { program := "ytkbielcbkpglhaagreatdoor", sum := "c13320f7c35385d37457a945c60a0966ddbd60ed8abcab70578140424af79452", func := "postbag/postbaglaw8.ThreadStable", spec := "threadStable", inPlace := ["internal/bytealg.IndexByteString", "internal/bytealg.IndexString", "internal/abi.NoEscape", "internal/bytealg.abigen_runtime_cmpstring"], unfollowed := true, recurses := true, named := ["internal/bytealg.MaxLen", "unicode/utf8.first", "unicode/utf8.acceptRanges", "postbag/moment.lengths", "internal/strconv.uint64pow10", "math/bits.deBruijn32tab", "math/bits.deBruijn64tab"], apart := false, laid := [("math/bits.deBruijn32tab", laid_math_bits_deBruijn32tab), ("math/bits.deBruijn64tab", laid_math_bits_deBruijn64tab), ("internal/strconv.uint64pow10", laid_internal_strconv_uint64pow10), ("unicode/utf8.acceptRanges", laid_unicode_utf8_acceptRanges), ("postbag/moment.lengths", laid_postbag_moment_lengths), ("unicode/utf8.first", laid_unicode_utf8_first)], narrowed := true }
def ThreadStableUptoSaid : Prop := threadStableUptoRow.holds Tryz.pinned (OpenSpec.upto threadStableSpec)

/-- 'postbaglaw8.ThreadTurned', WHERE WHAT IT READS IS OF BULK AT MOST 1048576: true; the input reads as it did. -/
def threadTurnedUptoRow : OpenClaim := { program := "ytkbielcbkpglhaagreatdoor", sum := "c13320f7c35385d37457a945c60a0966ddbd60ed8abcab70578140424af79452", func := "postbag/postbaglaw8.ThreadTurned", spec := "threadTurned", inPlace := ["internal/bytealg.IndexByteString", "internal/bytealg.IndexString", "internal/abi.NoEscape", "internal/bytealg.abigen_runtime_cmpstring"], unfollowed := true, recurses := true, named := ["internal/bytealg.MaxLen", "unicode/utf8.first", "unicode/utf8.acceptRanges", "postbag/moment.lengths", "internal/strconv.uint64pow10", "math/bits.deBruijn32tab", "math/bits.deBruijn64tab"], apart := false, laid := [("math/bits.deBruijn32tab", laid_math_bits_deBruijn32tab), ("math/bits.deBruijn64tab", laid_math_bits_deBruijn64tab), ("internal/strconv.uint64pow10", laid_internal_strconv_uint64pow10), ("unicode/utf8.acceptRanges", laid_unicode_utf8_acceptRanges), ("postbag/moment.lengths", laid_postbag_moment_lengths), ("unicode/utf8.first", laid_unicode_utf8_first)], narrowed := true }
def ThreadTurnedUptoSaid : Prop := threadTurnedUptoRow.holds Tryz.pinned (OpenSpec.upto threadTurnedSpec)

/-- 'postbaglaw8.ThreadAll', WHERE WHAT IT READS IS OF BULK AT MOST 1048576: true; the input reads as it did. -/
def threadAllUptoRow : OpenClaim := { program := "ytkbielcbkpglhaagreatdoor", sum := "c13320f7c35385d37457a945c60a0966ddbd60ed8abcab70578140424af79452", func := "postbag/postbaglaw8.ThreadAll", spec := "threadAll", inPlace := ["internal/bytealg.IndexByteString", "internal/bytealg.IndexString", "internal/abi.NoEscape", "internal/bytealg.abigen_runtime_cmpstring"], unfollowed := true, recurses := true, named := ["internal/bytealg.MaxLen", "unicode/utf8.first", "unicode/utf8.acceptRanges", "postbag/moment.lengths", "internal/strconv.uint64pow10", "math/bits.deBruijn32tab", "math/bits.deBruijn64tab"], apart := false, laid := [("math/bits.deBruijn32tab", laid_math_bits_deBruijn32tab), ("math/bits.deBruijn64tab", laid_math_bits_deBruijn64tab), ("internal/strconv.uint64pow10", laid_internal_strconv_uint64pow10), ("unicode/utf8.acceptRanges", laid_unicode_utf8_acceptRanges), ("postbag/moment.lengths", laid_postbag_moment_lengths), ("unicode/utf8.first", laid_unicode_utf8_first)], narrowed := true }
def ThreadAllUptoSaid : Prop := threadAllUptoRow.holds Tryz.pinned (OpenSpec.upto threadAllSpec)

/-- 'postbaglaw8.ThreadUnordered', WHERE WHAT IT READS IS OF BULK AT MOST 1048576: true; the input reads as it did. -/
def threadUnorderedUptoRow : OpenClaim := { program := "ytkbielcbkpglhaagreatdoor", sum := "c13320f7c35385d37457a945c60a0966ddbd60ed8abcab70578140424af79452", func := "postbag/postbaglaw8.ThreadUnordered", spec := "threadUnordered", inPlace := ["internal/bytealg.IndexByteString", "internal/bytealg.IndexString", "internal/abi.NoEscape", "internal/bytealg.abigen_runtime_cmpstring"], unfollowed := true, recurses := true, named := ["internal/bytealg.MaxLen", "unicode/utf8.first", "unicode/utf8.acceptRanges", "postbag/moment.lengths", "internal/strconv.uint64pow10", "math/bits.deBruijn32tab", "math/bits.deBruijn64tab"], apart := false, laid := [("math/bits.deBruijn32tab", laid_math_bits_deBruijn32tab), ("math/bits.deBruijn64tab", laid_math_bits_deBruijn64tab), ("internal/strconv.uint64pow10", laid_internal_strconv_uint64pow10), ("unicode/utf8.acceptRanges", laid_unicode_utf8_acceptRanges), ("postbag/moment.lengths", laid_postbag_moment_lengths), ("unicode/utf8.first", laid_unicode_utf8_first)], narrowed := true }
def ThreadUnorderedUptoSaid : Prop := threadUnorderedUptoRow.holds Tryz.pinned (OpenSpec.upto threadUnorderedSpec)

/-- 'postbaglaw8.ThreadHangs', WHERE WHAT IT READS IS OF BULK AT MOST 1048576: true; the input reads as it did. -/
def threadHangsUptoRow : OpenClaim := { program := "ytkbielcbkpglhaagreatdoor", sum := "c13320f7c35385d37457a945c60a0966ddbd60ed8abcab70578140424af79452", func := "postbag/postbaglaw8.ThreadHangs", spec := "threadHangs", inPlace := ["internal/bytealg.IndexByteString", "internal/bytealg.IndexString", "internal/abi.NoEscape", "internal/bytealg.abigen_runtime_cmpstring"], unfollowed := true, recurses := true, named := ["internal/bytealg.MaxLen", "unicode/utf8.first", "unicode/utf8.acceptRanges", "postbag/moment.lengths", "internal/strconv.uint64pow10", "math/bits.deBruijn32tab", "math/bits.deBruijn64tab"], apart := false, laid := [("math/bits.deBruijn32tab", laid_math_bits_deBruijn32tab), ("math/bits.deBruijn64tab", laid_math_bits_deBruijn64tab), ("internal/strconv.uint64pow10", laid_internal_strconv_uint64pow10), ("unicode/utf8.acceptRanges", laid_unicode_utf8_acceptRanges), ("postbag/moment.lengths", laid_postbag_moment_lengths), ("unicode/utf8.first", laid_unicode_utf8_first)], narrowed := true }
def ThreadHangsUptoSaid : Prop := threadHangsUptoRow.holds Tryz.pinned (OpenSpec.upto threadHangsSpec)

/-- 'postbaglaw8.ThreadAround', WHERE WHAT IT READS IS OF BULK AT MOST 1048576: true; the input reads as it did. -/
def threadAroundUptoRow : OpenClaim := { program := "ytkbielcbkpglhaagreatdoor", sum := "c13320f7c35385d37457a945c60a0966ddbd60ed8abcab70578140424af79452", func := "postbag/postbaglaw8.ThreadAround", spec := "threadAround", inPlace := ["internal/bytealg.IndexByteString", "internal/bytealg.IndexString", "internal/abi.NoEscape", "internal/bytealg.abigen_runtime_cmpstring"], unfollowed := true, recurses := true, named := ["internal/bytealg.MaxLen", "unicode/utf8.first", "unicode/utf8.acceptRanges", "postbag/moment.lengths", "internal/strconv.uint64pow10", "math/bits.deBruijn32tab", "math/bits.deBruijn64tab"], apart := false, laid := [("math/bits.deBruijn32tab", laid_math_bits_deBruijn32tab), ("math/bits.deBruijn64tab", laid_math_bits_deBruijn64tab), ("internal/strconv.uint64pow10", laid_internal_strconv_uint64pow10), ("unicode/utf8.acceptRanges", laid_unicode_utf8_acceptRanges), ("postbag/moment.lengths", laid_postbag_moment_lengths), ("unicode/utf8.first", laid_unicode_utf8_first)], narrowed := true }
def ThreadAroundUptoSaid : Prop := threadAroundUptoRow.holds Tryz.pinned (OpenSpec.upto threadAroundSpec)

/-- 'postbaglaw8.ThreadSubjected', WHERE WHAT IT READS IS OF BULK AT MOST 1048576: true; the input reads as it did. -/
def threadSubjectedUptoRow : OpenClaim := { program := "ytkbielcbkpglhaagreatdoor", sum := "c13320f7c35385d37457a945c60a0966ddbd60ed8abcab70578140424af79452", func := "postbag/postbaglaw8.ThreadSubjected", spec := "threadSubjected", inPlace := ["internal/bytealg.IndexByteString", "internal/bytealg.IndexString", "internal/abi.NoEscape", "internal/bytealg.abigen_runtime_cmpstring"], unfollowed := true, recurses := true, named := ["internal/bytealg.MaxLen", "unicode/utf8.first", "unicode/utf8.acceptRanges", "postbag/moment.lengths", "internal/strconv.uint64pow10", "math/bits.deBruijn32tab", "math/bits.deBruijn64tab"], apart := false, laid := [("math/bits.deBruijn32tab", laid_math_bits_deBruijn32tab), ("math/bits.deBruijn64tab", laid_math_bits_deBruijn64tab), ("internal/strconv.uint64pow10", laid_internal_strconv_uint64pow10), ("unicode/utf8.acceptRanges", laid_unicode_utf8_acceptRanges), ("postbag/moment.lengths", laid_postbag_moment_lengths), ("unicode/utf8.first", laid_unicode_utf8_first)], narrowed := true }
def ThreadSubjectedUptoSaid : Prop := threadSubjectedUptoRow.holds Tryz.pinned (OpenSpec.upto threadSubjectedSpec)

/-- 'postbaglaw8.ThreadKeeps', WHERE WHAT IT READS IS OF BULK AT MOST 1048576: true; the input reads as it did. -/
def threadKeepsUptoRow : OpenClaim := { program := "ytkbielcbkpglhaagreatdoor", sum := "c13320f7c35385d37457a945c60a0966ddbd60ed8abcab70578140424af79452", func := "postbag/postbaglaw8.ThreadKeeps", spec := "threadKeeps", inPlace := ["internal/bytealg.IndexByteString", "internal/bytealg.IndexString", "internal/abi.NoEscape", "internal/bytealg.abigen_runtime_cmpstring"], unfollowed := true, recurses := true, named := ["internal/bytealg.MaxLen", "unicode/utf8.first", "unicode/utf8.acceptRanges", "postbag/moment.lengths", "internal/strconv.uint64pow10", "math/bits.deBruijn32tab", "math/bits.deBruijn64tab"], loops := true, apart := false, laid := [("math/bits.deBruijn32tab", laid_math_bits_deBruijn32tab), ("math/bits.deBruijn64tab", laid_math_bits_deBruijn64tab), ("internal/strconv.uint64pow10", laid_internal_strconv_uint64pow10), ("unicode/utf8.acceptRanges", laid_unicode_utf8_acceptRanges), ("postbag/moment.lengths", laid_postbag_moment_lengths), ("unicode/utf8.first", laid_unicode_utf8_first)], narrowed := true }
def ThreadKeepsUptoSaid : Prop := threadKeepsUptoRow.holds Tryz.pinned (OpenSpec.upto threadKeepsSpec)

end Rows
end Go.Proofs.YtkbielcbkpglhaaGreatDoor
