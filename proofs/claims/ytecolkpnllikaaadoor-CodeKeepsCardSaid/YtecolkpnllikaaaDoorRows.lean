/-
  NARROWER THAN 'FOR EVERY INPUT', by the rows' own cells (each row's printed sentence says how): CodeWays: laid · CodeRights: laid · CodeWithin: laid · CodeBytes: laid · CodeBack: laid · CodeThere: laid · CodeKeeps: laid.
  DERIVED. THE GIVEN ROWS OF THIS SEAT. 7 by the template 'for every input the law returns true; each argument reads behind the call as it read before'; 0 by the template 'total and deterministic' (their statements: YtecolkpnllikaaaDoorTotals.lean).
  GIVEN WITH THE SEED: the statements are not yours to turn. If you find one false, say at which input.
  Laid BY PROGRAM, IN A SANDBOX (cutbox-rows.mjs): the forced cells as the released guide's own fill.sh prints them over the translation 9d5e323513b0ed5d… (all of the seat's roots in one cut). By AI agents, Wed Nov 11 2026. No macro, syntax, notation, axiom, sorry.
-/
import Derived.Test.YtecolkpnllikaaaDoorChecked
import GoSem.PinnedTables
import GoSem.Claim
import GoSem.ClaimJoined
import GoSem.ClaimMapViews
import Derived.JoinedTies
import Derived.KernelRfl
namespace Go.Proofs.YtecolkpnllikaaaDoor
/- THE CELL 'sum', in the pinned program and in every row, IS THE sha256 OF THE DUMP (.gsa) THAT YtecolkpnllikaaaDoorProg.lean LOADS. Nothing in Lean hashes anything: it is a label: what it is worth is what the hold of that sum in a sandbox is worth. -/
noncomputable def Tryd.pinned : Pinned := { name := "ytecolkpnllikaaadoor", sum := "9d5e323513b0ed5d862b35cb1b26d208bf3562714ecf01039e7185eec3b805b8", checked := Tryd.checked }
namespace Rows
def none {H : Type} : Left H := { results := [], args := [] }

/- WHAT THE LISTED PACKAGE-LEVEL VARIABLES READ AS WHEN THE CALL BEGINS. Each datum BY PROGRAM (the guide's laid-datum.mjs) off the statement by which the dump's own 'gosem.cut.vars' lays the variable. In a bare row this is a premise. The card (YtecolkpnllikaaaDoorCards.lean) ties it to the program's text. -/
def laid_baize_code_operations {H : Type} : DataW H := .agg [.agg [.lit (.string [104, 97, 108, 116]), .lit (.string [110])], .agg [.lit (.string [115, 101, 116]), .lit (.string [119, 110])], .agg [.lit (.string [109, 111, 118, 101]), .lit (.string [119, 119])], .agg [.lit (.string [97, 100, 100]), .lit (.string [119, 119, 119])], .agg [.lit (.string [115, 117, 98]), .lit (.string [119, 119, 119])], .agg [.lit (.string [109, 117, 108]), .lit (.string [119, 119, 119])], .agg [.lit (.string [100, 105, 118]), .lit (.string [119, 119, 119])], .agg [.lit (.string [114, 101, 109]), .lit (.string [119, 119, 119])], .agg [.lit (.string [101, 113]), .lit (.string [119, 119, 119])], .agg [.lit (.string [110, 101]), .lit (.string [119, 119, 119])], .agg [.lit (.string [108, 116]), .lit (.string [119, 119, 119])], .agg [.lit (.string [108, 101]), .lit (.string [119, 119, 119])], .agg [.lit (.string [97, 110, 100]), .lit (.string [119, 119, 119])], .agg [.lit (.string [111, 114]), .lit (.string [119, 119, 119])], .agg [.lit (.string [110, 111, 116]), .lit (.string [119, 119])], .agg [.lit (.string [108, 111, 97, 100]), .lit (.string [119, 119, 119])], .agg [.lit (.string [115, 116, 111, 114, 101]), .lit (.string [119, 119, 119])], .agg [.lit (.string [99, 117, 116]), .lit (.string [119, 110, 110])], .agg [.lit (.string [119, 105, 116, 104, 105, 110]), .lit (.string [119, 119, 110])], .agg [.lit (.string [106, 117, 109, 112]), .lit (.string [112])], .agg [.lit (.string [106, 122]), .lit (.string [112, 119])], .agg [.lit (.string [106, 110, 122]), .lit (.string [112, 119])]]
def laid_math_bits_deBruijn32tab {H : Type} : DataW H := .agg [.lit (.int .u8 0), .lit (.int .u8 1), .lit (.int .u8 28), .lit (.int .u8 2), .lit (.int .u8 29), .lit (.int .u8 14), .lit (.int .u8 24), .lit (.int .u8 3), .lit (.int .u8 30), .lit (.int .u8 22), .lit (.int .u8 20), .lit (.int .u8 15), .lit (.int .u8 25), .lit (.int .u8 17), .lit (.int .u8 4), .lit (.int .u8 8), .lit (.int .u8 31), .lit (.int .u8 27), .lit (.int .u8 13), .lit (.int .u8 23), .lit (.int .u8 21), .lit (.int .u8 19), .lit (.int .u8 16), .lit (.int .u8 7), .lit (.int .u8 26), .lit (.int .u8 12), .lit (.int .u8 18), .lit (.int .u8 6), .lit (.int .u8 11), .lit (.int .u8 5), .lit (.int .u8 10), .lit (.int .u8 9)]
def laid_math_bits_deBruijn64tab {H : Type} : DataW H := .agg [.lit (.int .u8 0), .lit (.int .u8 1), .lit (.int .u8 56), .lit (.int .u8 2), .lit (.int .u8 57), .lit (.int .u8 49), .lit (.int .u8 28), .lit (.int .u8 3), .lit (.int .u8 61), .lit (.int .u8 58), .lit (.int .u8 42), .lit (.int .u8 50), .lit (.int .u8 38), .lit (.int .u8 29), .lit (.int .u8 17), .lit (.int .u8 4), .lit (.int .u8 62), .lit (.int .u8 47), .lit (.int .u8 59), .lit (.int .u8 36), .lit (.int .u8 45), .lit (.int .u8 43), .lit (.int .u8 51), .lit (.int .u8 22), .lit (.int .u8 53), .lit (.int .u8 39), .lit (.int .u8 33), .lit (.int .u8 30), .lit (.int .u8 24), .lit (.int .u8 18), .lit (.int .u8 12), .lit (.int .u8 5), .lit (.int .u8 63), .lit (.int .u8 55), .lit (.int .u8 48), .lit (.int .u8 27), .lit (.int .u8 60), .lit (.int .u8 41), .lit (.int .u8 37), .lit (.int .u8 16), .lit (.int .u8 46), .lit (.int .u8 35), .lit (.int .u8 44), .lit (.int .u8 21), .lit (.int .u8 52), .lit (.int .u8 32), .lit (.int .u8 23), .lit (.int .u8 11), .lit (.int .u8 54), .lit (.int .u8 26), .lit (.int .u8 40), .lit (.int .u8 15), .lit (.int .u8 34), .lit (.int .u8 20), .lit (.int .u8 31), .lit (.int .u8 10), .lit (.int .u8 25), .lit (.int .u8 14), .lit (.int .u8 19), .lit (.int .u8 9), .lit (.int .u8 13), .lit (.int .u8 8), .lit (.int .u8 7), .lit (.int .u8 6)]
def laid_internal_strconv_uint64pow10 {H : Type} : DataW H := .agg [.lit (.int .u64 1), .lit (.int .u64 10), .lit (.int .u64 100), .lit (.int .u64 1000), .lit (.int .u64 10000), .lit (.int .u64 100000), .lit (.int .u64 1000000), .lit (.int .u64 10000000), .lit (.int .u64 100000000), .lit (.int .u64 1000000000), .lit (.int .u64 10000000000), .lit (.int .u64 100000000000), .lit (.int .u64 1000000000000), .lit (.int .u64 10000000000000), .lit (.int .u64 100000000000000), .lit (.int .u64 1000000000000000), .lit (.int .u64 10000000000000000), .lit (.int .u64 100000000000000000), .lit (.int .u64 1000000000000000000), .lit (.int .u64 10000000000000000000)]
def laid_unicode_utf8_acceptRanges {H : Type} : DataW H := .agg [.agg [.lit (.int .u8 128), .lit (.int .u8 191)], .agg [.lit (.int .u8 160), .lit (.int .u8 191)], .agg [.lit (.int .u8 128), .lit (.int .u8 159)], .agg [.lit (.int .u8 144), .lit (.int .u8 191)], .agg [.lit (.int .u8 128), .lit (.int .u8 143)], .agg [.lit (.int .u8 0), .lit (.int .u8 0)], .agg [.lit (.int .u8 0), .lit (.int .u8 0)], .agg [.lit (.int .u8 0), .lit (.int .u8 0)], .agg [.lit (.int .u8 0), .lit (.int .u8 0)], .agg [.lit (.int .u8 0), .lit (.int .u8 0)], .agg [.lit (.int .u8 0), .lit (.int .u8 0)], .agg [.lit (.int .u8 0), .lit (.int .u8 0)], .agg [.lit (.int .u8 0), .lit (.int .u8 0)], .agg [.lit (.int .u8 0), .lit (.int .u8 0)], .agg [.lit (.int .u8 0), .lit (.int .u8 0)], .agg [.lit (.int .u8 0), .lit (.int .u8 0)]]
/-- One of Go's own tables, pinned by name: the form's constant. -/
def laid_unicode_utf8_first : DataW Unit := Go.Pinned.utf8First

/-- 'baizelaw14.CodeWays': WHATEVER THE INPUT: true; the input reads as it did. -/
def codeWaysSpec : ChangeSpec := { name := "codeWays", fn := fun _ => fun
  | [d1, d2, d3] => { results := [.lit (.bool true)], args := [d1, d2, d3] }
  | _ => none }
def codeWaysRow : OpenClaim := { program := "ytecolkpnllikaaadoor", sum := "9d5e323513b0ed5d862b35cb1b26d208bf3562714ecf01039e7185eec3b805b8", func := "baize/baizelaw14.CodeWays", spec := "codeWays", named := ["baize/code.operations"], apart := false, laid := [("baize/code.operations", laid_baize_code_operations)] }
def CodeWaysSaid : Prop := codeWaysRow.holds Tryd.pinned (OpenSpec.ofChange codeWaysSpec)

/-- ITS FALSE NEIGHBOUR: 'it returns false'. Refute it at one input. -/
def codeWaysWrong : ChangeSpec := { name := "codeWays", fn := fun _ => fun
  | [d1, d2, d3] => { results := [.lit (.bool false)], args := [d1, d2, d3] }
  | _ => none }
def CodeWaysWrongFalsely : Prop := codeWaysRow.holds Tryd.pinned (OpenSpec.ofChange codeWaysWrong)

/-- 'baizelaw14.CodeRights': WHATEVER THE INPUT: true; the input reads as it did. -/
def codeRightsSpec : ChangeSpec := { name := "codeRights", fn := fun _ => fun
  | [d1, d2, d3, d4] => { results := [.lit (.bool true)], args := [d1, d2, d3, d4] }
  | _ => none }
def codeRightsRow : OpenClaim := { program := "ytecolkpnllikaaadoor", sum := "9d5e323513b0ed5d862b35cb1b26d208bf3562714ecf01039e7185eec3b805b8", func := "baize/baizelaw14.CodeRights", spec := "codeRights", named := ["baize/code.operations"], apart := false, laid := [("baize/code.operations", laid_baize_code_operations)] }
def CodeRightsSaid : Prop := codeRightsRow.holds Tryd.pinned (OpenSpec.ofChange codeRightsSpec)

/-- ITS FALSE NEIGHBOUR: 'it returns false'. Refute it at one input. -/
def codeRightsWrong : ChangeSpec := { name := "codeRights", fn := fun _ => fun
  | [d1, d2, d3, d4] => { results := [.lit (.bool false)], args := [d1, d2, d3, d4] }
  | _ => none }
def CodeRightsWrongFalsely : Prop := codeRightsRow.holds Tryd.pinned (OpenSpec.ofChange codeRightsWrong)

/-- 'baizelaw14.CodeWithin': WHATEVER THE INPUT: true; the input reads as it did. -/
def codeWithinSpec : ChangeSpec := { name := "codeWithin", fn := fun _ => fun
  | [d1, d2, d3, d4, d5] => { results := [.lit (.bool true)], args := [d1, d2, d3, d4, d5] }
  | _ => none }
def codeWithinRow : OpenClaim := { program := "ytecolkpnllikaaadoor", sum := "9d5e323513b0ed5d862b35cb1b26d208bf3562714ecf01039e7185eec3b805b8", func := "baize/baizelaw14.CodeWithin", spec := "codeWithin", named := ["baize/code.operations"], apart := false, laid := [("baize/code.operations", laid_baize_code_operations)] }
def CodeWithinSaid : Prop := codeWithinRow.holds Tryd.pinned (OpenSpec.ofChange codeWithinSpec)

/-- ITS FALSE NEIGHBOUR: 'it returns false'. Refute it at one input. -/
def codeWithinWrong : ChangeSpec := { name := "codeWithin", fn := fun _ => fun
  | [d1, d2, d3, d4, d5] => { results := [.lit (.bool false)], args := [d1, d2, d3, d4, d5] }
  | _ => none }
def CodeWithinWrongFalsely : Prop := codeWithinRow.holds Tryd.pinned (OpenSpec.ofChange codeWithinWrong)

/-- 'baizelaw14.CodeBytes': WHATEVER THE INPUT: true; the input reads as it did. -/
def codeBytesSpec : ChangeSpec := { name := "codeBytes", fn := fun _ => fun
  | [d1, d2] => { results := [.lit (.bool true)], args := [d1, d2] }
  | _ => none }
def codeBytesRow : OpenClaim := { program := "ytecolkpnllikaaadoor", sum := "9d5e323513b0ed5d862b35cb1b26d208bf3562714ecf01039e7185eec3b805b8", func := "baize/baizelaw14.CodeBytes", spec := "codeBytes", unfollowed := true, recurses := true, named := ["baize/code.operations"], apart := false, laid := [("baize/code.operations", laid_baize_code_operations)] }
def CodeBytesSaid : Prop := codeBytesRow.holds Tryd.pinned (OpenSpec.ofChange codeBytesSpec)

/-- ITS FALSE NEIGHBOUR: 'it returns false'. Refute it at one input. -/
def codeBytesWrong : ChangeSpec := { name := "codeBytes", fn := fun _ => fun
  | [d1, d2] => { results := [.lit (.bool false)], args := [d1, d2] }
  | _ => none }
def CodeBytesWrongFalsely : Prop := codeBytesRow.holds Tryd.pinned (OpenSpec.ofChange codeBytesWrong)

/-- 'baizelaw14.CodeBack': WHATEVER THE INPUT: true; the input reads as it did. -/
def codeBackSpec : ChangeSpec := { name := "codeBack", fn := fun _ => fun
  | [d1, d2, d3] => { results := [.lit (.bool true)], args := [d1, d2, d3] }
  | _ => none }
def codeBackRow : OpenClaim := { program := "ytecolkpnllikaaadoor", sum := "9d5e323513b0ed5d862b35cb1b26d208bf3562714ecf01039e7185eec3b805b8", func := "baize/baizelaw14.CodeBack", spec := "codeBack", unfollowed := true, recurses := true, named := ["baize/code.operations"], apart := false, laid := [("baize/code.operations", laid_baize_code_operations)] }
def CodeBackSaid : Prop := codeBackRow.holds Tryd.pinned (OpenSpec.ofChange codeBackSpec)

/-- ITS FALSE NEIGHBOUR: 'it returns false'. Refute it at one input. -/
def codeBackWrong : ChangeSpec := { name := "codeBack", fn := fun _ => fun
  | [d1, d2, d3] => { results := [.lit (.bool false)], args := [d1, d2, d3] }
  | _ => none }
def CodeBackWrongFalsely : Prop := codeBackRow.holds Tryd.pinned (OpenSpec.ofChange codeBackWrong)

/-- 'baizelaw14.CodeThere': WHATEVER THE INPUT: true; the input reads as it did. -/
def codeThereSpec : ChangeSpec := { name := "codeThere", fn := fun _ => fun
  | [d1, d2] => { results := [.lit (.bool true)], args := [d1, d2] }
  | _ => none }
def codeThereRow : OpenClaim := { program := "ytecolkpnllikaaadoor", sum := "9d5e323513b0ed5d862b35cb1b26d208bf3562714ecf01039e7185eec3b805b8", func := "baize/baizelaw14.CodeThere", spec := "codeThere", inPlace := ["internal/abi.NoEscape", "internal/bytealg.IndexByteString", "internal/bytealg.IndexString", "internal/bytealg.CountString"], named := ["baize/code.operations", "internal/strconv.uint64pow10", "math/bits.deBruijn32tab", "math/bits.deBruijn64tab", "internal/bytealg.MaxLen", "unicode/utf8.first", "unicode/utf8.acceptRanges"], apart := false, laid := [("math/bits.deBruijn32tab", laid_math_bits_deBruijn32tab), ("math/bits.deBruijn64tab", laid_math_bits_deBruijn64tab), ("internal/strconv.uint64pow10", laid_internal_strconv_uint64pow10), ("unicode/utf8.acceptRanges", laid_unicode_utf8_acceptRanges), ("baize/code.operations", laid_baize_code_operations), ("unicode/utf8.first", laid_unicode_utf8_first)] }
def CodeThereSaid : Prop := codeThereRow.holds Tryd.pinned (OpenSpec.ofChange codeThereSpec)

/-- ITS FALSE NEIGHBOUR: 'it returns false'. Refute it at one input. -/
def codeThereWrong : ChangeSpec := { name := "codeThere", fn := fun _ => fun
  | [d1, d2] => { results := [.lit (.bool false)], args := [d1, d2] }
  | _ => none }
def CodeThereWrongFalsely : Prop := codeThereRow.holds Tryd.pinned (OpenSpec.ofChange codeThereWrong)

/-- 'baizelaw14.CodeKeeps': WHATEVER THE INPUT: true; the input reads as it did. -/
def codeKeepsSpec : ChangeSpec := { name := "codeKeeps", fn := fun _ => fun
  | [d] => { results := [.lit (.bool true)], args := [d] }
  | _ => none }
def codeKeepsRow : OpenClaim := { program := "ytecolkpnllikaaadoor", sum := "9d5e323513b0ed5d862b35cb1b26d208bf3562714ecf01039e7185eec3b805b8", func := "baize/baizelaw14.CodeKeeps", spec := "codeKeeps", inPlace := ["internal/abi.NoEscape", "internal/bytealg.IndexByteString", "internal/bytealg.IndexString", "internal/bytealg.CountString"], unfollowed := true, recurses := true, named := ["baize/code.operations", "internal/strconv.uint64pow10", "math/bits.deBruijn32tab", "math/bits.deBruijn64tab", "internal/bytealg.MaxLen", "unicode/utf8.first", "unicode/utf8.acceptRanges"], apart := false, laid := [("math/bits.deBruijn32tab", laid_math_bits_deBruijn32tab), ("math/bits.deBruijn64tab", laid_math_bits_deBruijn64tab), ("internal/strconv.uint64pow10", laid_internal_strconv_uint64pow10), ("unicode/utf8.acceptRanges", laid_unicode_utf8_acceptRanges), ("baize/code.operations", laid_baize_code_operations), ("unicode/utf8.first", laid_unicode_utf8_first)] }
def CodeKeepsSaid : Prop := codeKeepsRow.holds Tryd.pinned (OpenSpec.ofChange codeKeepsSpec)

/-- ITS FALSE NEIGHBOUR: 'it returns false'. Refute it at one input. -/
def codeKeepsWrong : ChangeSpec := { name := "codeKeeps", fn := fun _ => fun
  | [d] => { results := [.lit (.bool false)], args := [d] }
  | _ => none }
def CodeKeepsWrongFalsely : Prop := codeKeepsRow.holds Tryd.pinned (OpenSpec.ofChange codeKeepsWrong)

/- THE SECOND FORM. 'bulk': how many values and letters a reading holds, each counted each time it is reached (what is shared counts as often as it is met; a slice's spare places count too). A statement '..UptoSaid' is the law's where the arguments, and the package variables that the reading takes, are together of bulk at most 1048576: NARROWER than '..Said'. Prove '..Said' where nothing that the law and all that it calls make is longer than what came in: it says more and counts as full. Else prove '..UptoSaid'. A law counts once. -/
mutual
def uptoBulk {H : Type} : DataW H → Nat
  | .lit (.string bytes) => bytes.length + 1
  | .lit _ => 1
  | .nil => 1
  | .ptr d => uptoBulk d + 1
  | .slice elems spare => uptoBulkAll elems + uptoBulkAll spare + 1
  | .agg parts => uptoBulkAll parts + 1
  | .iface _ d => uptoBulk d + 1
  | .map entries => uptoBulkEntries entries + 1
  | .held _ => 1
def uptoBulkAll {H : Type} : List (DataW H) → Nat
  | [] => 0
  | d :: r => uptoBulk d + uptoBulkAll r
def uptoBulkEntries {H : Type} : List (Lit × DataW H) → Nat
  | [] => 0
  | x :: r => uptoBulkEntry x + uptoBulkEntries r
def uptoBulkEntry {H : Type} : Lit × DataW H → Nat
  | (.string bytes, d) => bytes.length + uptoBulk d + 1
  | (_, d) => uptoBulk d + 1
 end
def uptoSmall : (H : Type) → List (DataW H) → Bool := fun _ ds => decide (uptoBulkAll ds ≤ 1048576)
def OpenSpec.upto (s : _root_.Go.ChangeSpec) : _root_.Go.OpenSpec := { _root_.Go.OpenSpec.ofChange s with cond := some uptoSmall }

/-- 'baizelaw14.CodeWays', WHERE WHAT IT READS IS OF BULK AT MOST 1048576: true; the input reads as it did. -/
def codeWaysUptoRow : OpenClaim := { program := "ytecolkpnllikaaadoor", sum := "9d5e323513b0ed5d862b35cb1b26d208bf3562714ecf01039e7185eec3b805b8", func := "baize/baizelaw14.CodeWays", spec := "codeWays", named := ["baize/code.operations"], apart := false, laid := [("baize/code.operations", laid_baize_code_operations)], narrowed := true }
def CodeWaysUptoSaid : Prop := codeWaysUptoRow.holds Tryd.pinned (OpenSpec.upto codeWaysSpec)

/-- 'baizelaw14.CodeRights', WHERE WHAT IT READS IS OF BULK AT MOST 1048576: true; the input reads as it did. -/
def codeRightsUptoRow : OpenClaim := { program := "ytecolkpnllikaaadoor", sum := "9d5e323513b0ed5d862b35cb1b26d208bf3562714ecf01039e7185eec3b805b8", func := "baize/baizelaw14.CodeRights", spec := "codeRights", named := ["baize/code.operations"], apart := false, laid := [("baize/code.operations", laid_baize_code_operations)], narrowed := true }
def CodeRightsUptoSaid : Prop := codeRightsUptoRow.holds Tryd.pinned (OpenSpec.upto codeRightsSpec)

/-- 'baizelaw14.CodeWithin', WHERE WHAT IT READS IS OF BULK AT MOST 1048576: true; the input reads as it did. -/
def codeWithinUptoRow : OpenClaim := { program := "ytecolkpnllikaaadoor", sum := "9d5e323513b0ed5d862b35cb1b26d208bf3562714ecf01039e7185eec3b805b8", func := "baize/baizelaw14.CodeWithin", spec := "codeWithin", named := ["baize/code.operations"], apart := false, laid := [("baize/code.operations", laid_baize_code_operations)], narrowed := true }
def CodeWithinUptoSaid : Prop := codeWithinUptoRow.holds Tryd.pinned (OpenSpec.upto codeWithinSpec)

/-- 'baizelaw14.CodeBytes', WHERE WHAT IT READS IS OF BULK AT MOST 1048576: true; the input reads as it did. -/
def codeBytesUptoRow : OpenClaim := { program := "ytecolkpnllikaaadoor", sum := "9d5e323513b0ed5d862b35cb1b26d208bf3562714ecf01039e7185eec3b805b8", func := "baize/baizelaw14.CodeBytes", spec := "codeBytes", unfollowed := true, recurses := true, named := ["baize/code.operations"], apart := false, laid := [("baize/code.operations", laid_baize_code_operations)], narrowed := true }
def CodeBytesUptoSaid : Prop := codeBytesUptoRow.holds Tryd.pinned (OpenSpec.upto codeBytesSpec)

/-- 'baizelaw14.CodeBack', WHERE WHAT IT READS IS OF BULK AT MOST 1048576: true; the input reads as it did. -/
def codeBackUptoRow : OpenClaim := { program := "ytecolkpnllikaaadoor", sum := "9d5e323513b0ed5d862b35cb1b26d208bf3562714ecf01039e7185eec3b805b8", func := "baize/baizelaw14.CodeBack", spec := "codeBack", unfollowed := true, recurses := true, named := ["baize/code.operations"], apart := false, laid := [("baize/code.operations", laid_baize_code_operations)], narrowed := true }
def CodeBackUptoSaid : Prop := codeBackUptoRow.holds Tryd.pinned (OpenSpec.upto codeBackSpec)

/-- 'baizelaw14.CodeThere', WHERE WHAT IT READS IS OF BULK AT MOST 1048576: true; the input reads as it did. -/
def codeThereUptoRow : OpenClaim := { program := "ytecolkpnllikaaadoor", sum := "9d5e323513b0ed5d862b35cb1b26d208bf3562714ecf01039e7185eec3b805b8", func := "baize/baizelaw14.CodeThere", spec := "codeThere", inPlace := ["internal/abi.NoEscape", "internal/bytealg.IndexByteString", "internal/bytealg.IndexString", "internal/bytealg.CountString"], named := ["baize/code.operations", "internal/strconv.uint64pow10", "math/bits.deBruijn32tab", "math/bits.deBruijn64tab", "internal/bytealg.MaxLen", "unicode/utf8.first", "unicode/utf8.acceptRanges"], apart := false, laid := [("math/bits.deBruijn32tab", laid_math_bits_deBruijn32tab), ("math/bits.deBruijn64tab", laid_math_bits_deBruijn64tab), ("internal/strconv.uint64pow10", laid_internal_strconv_uint64pow10), ("unicode/utf8.acceptRanges", laid_unicode_utf8_acceptRanges), ("baize/code.operations", laid_baize_code_operations), ("unicode/utf8.first", laid_unicode_utf8_first)], narrowed := true }
def CodeThereUptoSaid : Prop := codeThereUptoRow.holds Tryd.pinned (OpenSpec.upto codeThereSpec)

/-- 'baizelaw14.CodeKeeps', WHERE WHAT IT READS IS OF BULK AT MOST 1048576: true; the input reads as it did. -/
def codeKeepsUptoRow : OpenClaim := { program := "ytecolkpnllikaaadoor", sum := "9d5e323513b0ed5d862b35cb1b26d208bf3562714ecf01039e7185eec3b805b8", func := "baize/baizelaw14.CodeKeeps", spec := "codeKeeps", inPlace := ["internal/abi.NoEscape", "internal/bytealg.IndexByteString", "internal/bytealg.IndexString", "internal/bytealg.CountString"], unfollowed := true, recurses := true, named := ["baize/code.operations", "internal/strconv.uint64pow10", "math/bits.deBruijn32tab", "math/bits.deBruijn64tab", "internal/bytealg.MaxLen", "unicode/utf8.first", "unicode/utf8.acceptRanges"], apart := false, laid := [("math/bits.deBruijn32tab", laid_math_bits_deBruijn32tab), ("math/bits.deBruijn64tab", laid_math_bits_deBruijn64tab), ("internal/strconv.uint64pow10", laid_internal_strconv_uint64pow10), ("unicode/utf8.acceptRanges", laid_unicode_utf8_acceptRanges), ("baize/code.operations", laid_baize_code_operations), ("unicode/utf8.first", laid_unicode_utf8_first)], narrowed := true }
def CodeKeepsUptoSaid : Prop := codeKeepsUptoRow.holds Tryd.pinned (OpenSpec.upto codeKeepsSpec)

end Rows
end Go.Proofs.YtecolkpnllikaaaDoor
