/-
  NARROWER THAN 'FOR EVERY INPUT', by the rows' own cells (each row's printed sentence says how): DentLocks: laid · DentReads: laid · DentValues: laid · DentLines: laid · DentBad: laid · DentOrder: laid · DentEnds: laid.
  DERIVED. THE GIVEN ROWS OF THIS SEAT. 7 by the template 'for every input the law returns true; each argument reads behind the call as it read before'; 0 by the template 'total and deterministic' (their statements: YtpcmkjimdhlhiaaGreatDoorTotals.lean).
  GIVEN WITH THE SEED: the statements are not yours to turn. If you find one false, say at which input.
  Laid BY PROGRAM, IN A SANDBOX (cutbox-rows.mjs): the forced cells as the released guide's own fill.sh prints them over the translation 081d9ff84ea4211f… (all of the seat's roots in one cut). By AI agents, Wed Nov 11 2026. No macro, syntax, notation, axiom, sorry.
-/
import Derived.Test.YtpcmkjimdhlhiaaGreatDoorChecked
import GoSem.PinnedTables
import GoSem.Claim
import GoSem.ClaimJoined
import GoSem.ClaimMapViews
import Derived.JoinedTies
import Derived.KernelRfl
namespace Go.Proofs.YtpcmkjimdhlhiaaGreatDoor
/- THE CELL 'sum', in the pinned program and in every row, IS THE sha256 OF THE DUMP (.gsa) THAT YtpcmkjimdhlhiaaGreatDoorProg.lean LOADS. Nothing in Lean hashes anything: it is a label: what it is worth is what the hold of that sum in a sandbox is worth. -/
noncomputable def Tryz.pinned : Pinned := { name := "ytpcmkjimdhlhiaagreatdoor", sum := "081d9ff84ea4211f0e0feced34f1e7b5b3d6a71ad2c8d439048d7e848604dfe9", checked := Tryz.checked }
namespace Rows
def none {H : Type} : Left H := { results := [], args := [] }

/- WHAT THE LISTED PACKAGE-LEVEL VARIABLES READ AS WHEN THE CALL BEGINS. Each datum BY PROGRAM (the guide's laid-datum.mjs) off the statement by which the dump's own 'gosem.cut.vars' lays the variable. In a bare row this is a premise. The card (YtpcmkjimdhlhiaaGreatDoorCards.lean) ties it to the program's text. -/
def laid_unicode_utf8_acceptRanges {H : Type} : DataW H := .agg [.agg [.lit (.int .u8 128), .lit (.int .u8 191)], .agg [.lit (.int .u8 160), .lit (.int .u8 191)], .agg [.lit (.int .u8 128), .lit (.int .u8 159)], .agg [.lit (.int .u8 144), .lit (.int .u8 191)], .agg [.lit (.int .u8 128), .lit (.int .u8 143)], .agg [.lit (.int .u8 0), .lit (.int .u8 0)], .agg [.lit (.int .u8 0), .lit (.int .u8 0)], .agg [.lit (.int .u8 0), .lit (.int .u8 0)], .agg [.lit (.int .u8 0), .lit (.int .u8 0)], .agg [.lit (.int .u8 0), .lit (.int .u8 0)], .agg [.lit (.int .u8 0), .lit (.int .u8 0)], .agg [.lit (.int .u8 0), .lit (.int .u8 0)], .agg [.lit (.int .u8 0), .lit (.int .u8 0)], .agg [.lit (.int .u8 0), .lit (.int .u8 0)], .agg [.lit (.int .u8 0), .lit (.int .u8 0)], .agg [.lit (.int .u8 0), .lit (.int .u8 0)]]
def laid_bytes_ErrTooLarge {H : Type} : DataW H := .iface "*errors.errorString" (.ptr (.agg [.lit (.string [98, 121, 116, 101, 115, 46, 66, 117, 102, 102, 101, 114, 58, 32, 116, 111, 111, 32, 108, 97, 114, 103, 101])]))
/-- One of Go's own tables, pinned by name: the form's constant. -/
def laid_unicode_utf8_first : DataW Unit := Go.Pinned.utf8First

/-- 'transhumancelaw7.DentLocks': WHATEVER THE INPUT: true; the input reads as it did. -/
def dentLocksSpec : ChangeSpec := { name := "dentLocks", fn := fun _ => fun
  | [d1, d2] => { results := [.lit (.bool true)], args := [d1, d2] }
  | _ => none }
def dentLocksRow : OpenClaim := { program := "ytpcmkjimdhlhiaagreatdoor", sum := "081d9ff84ea4211f0e0feced34f1e7b5b3d6a71ad2c8d439048d7e848604dfe9", func := "transhumance/transhumancelaw7.DentLocks", spec := "dentLocks", inPlace := ["internal/bytealg.CountString", "internal/bytealg.IndexByteString", "internal/bytealg.IndexString", "internal/abi.NoEscape", "internal/bytealg.MakeNoZero"], unfollowed := true, recurses := true, named := ["internal/bytealg.MaxLen", "unicode/utf8.first", "unicode/utf8.acceptRanges", "bytes.ErrTooLarge"], apart := false, laid := [("unicode/utf8.acceptRanges", laid_unicode_utf8_acceptRanges), ("bytes.ErrTooLarge", laid_bytes_ErrTooLarge), ("unicode/utf8.first", laid_unicode_utf8_first)] }
def DentLocksSaid : Prop := dentLocksRow.holds Tryz.pinned (OpenSpec.ofChange dentLocksSpec)

/-- ITS FALSE NEIGHBOUR: 'it returns false'. Refute it at one input. -/
def dentLocksWrong : ChangeSpec := { name := "dentLocks", fn := fun _ => fun
  | [d1, d2] => { results := [.lit (.bool false)], args := [d1, d2] }
  | _ => none }
def DentLocksWrongFalsely : Prop := dentLocksRow.holds Tryz.pinned (OpenSpec.ofChange dentLocksWrong)

/-- 'transhumancelaw7.DentReads': WHATEVER THE INPUT: true; the input reads as it did. -/
def dentReadsSpec : ChangeSpec := { name := "dentReads", fn := fun _ => fun
  | [d1, d2, d3, d4, d5, d6, d7] => { results := [.lit (.bool true)], args := [d1, d2, d3, d4, d5, d6, d7] }
  | _ => none }
def dentReadsRow : OpenClaim := { program := "ytpcmkjimdhlhiaagreatdoor", sum := "081d9ff84ea4211f0e0feced34f1e7b5b3d6a71ad2c8d439048d7e848604dfe9", func := "transhumance/transhumancelaw7.DentReads", spec := "dentReads", inPlace := ["internal/bytealg.CountString", "internal/bytealg.IndexByteString", "internal/bytealg.IndexString", "internal/abi.NoEscape", "internal/bytealg.MakeNoZero"], unfollowed := true, recurses := true, named := ["internal/bytealg.MaxLen", "unicode/utf8.first", "unicode/utf8.acceptRanges", "bytes.ErrTooLarge"], apart := false, laid := [("unicode/utf8.acceptRanges", laid_unicode_utf8_acceptRanges), ("bytes.ErrTooLarge", laid_bytes_ErrTooLarge), ("unicode/utf8.first", laid_unicode_utf8_first)] }
def DentReadsSaid : Prop := dentReadsRow.holds Tryz.pinned (OpenSpec.ofChange dentReadsSpec)

/-- ITS FALSE NEIGHBOUR: 'it returns false'. Refute it at one input. -/
def dentReadsWrong : ChangeSpec := { name := "dentReads", fn := fun _ => fun
  | [d1, d2, d3, d4, d5, d6, d7] => { results := [.lit (.bool false)], args := [d1, d2, d3, d4, d5, d6, d7] }
  | _ => none }
def DentReadsWrongFalsely : Prop := dentReadsRow.holds Tryz.pinned (OpenSpec.ofChange dentReadsWrong)

/-- 'transhumancelaw7.DentValues': WHATEVER THE INPUT: true; the input reads as it did. -/
def dentValuesSpec : ChangeSpec := { name := "dentValues", fn := fun _ => fun
  | [d1, d2] => { results := [.lit (.bool true)], args := [d1, d2] }
  | _ => none }
def dentValuesRow : OpenClaim := { program := "ytpcmkjimdhlhiaagreatdoor", sum := "081d9ff84ea4211f0e0feced34f1e7b5b3d6a71ad2c8d439048d7e848604dfe9", func := "transhumance/transhumancelaw7.DentValues", spec := "dentValues", inPlace := ["internal/bytealg.CountString", "internal/bytealg.IndexByteString", "internal/bytealg.IndexString", "internal/abi.NoEscape", "internal/bytealg.MakeNoZero"], unfollowed := true, recurses := true, named := ["internal/bytealg.MaxLen", "unicode/utf8.first", "unicode/utf8.acceptRanges", "bytes.ErrTooLarge"], apart := false, laid := [("unicode/utf8.acceptRanges", laid_unicode_utf8_acceptRanges), ("bytes.ErrTooLarge", laid_bytes_ErrTooLarge), ("unicode/utf8.first", laid_unicode_utf8_first)] }
def DentValuesSaid : Prop := dentValuesRow.holds Tryz.pinned (OpenSpec.ofChange dentValuesSpec)

/-- ITS FALSE NEIGHBOUR: 'it returns false'. Refute it at one input. -/
def dentValuesWrong : ChangeSpec := { name := "dentValues", fn := fun _ => fun
  | [d1, d2] => { results := [.lit (.bool false)], args := [d1, d2] }
  | _ => none }
def DentValuesWrongFalsely : Prop := dentValuesRow.holds Tryz.pinned (OpenSpec.ofChange dentValuesWrong)

/-- 'transhumancelaw7.DentLines': WHATEVER THE INPUT: true; the input reads as it did. -/
def dentLinesSpec : ChangeSpec := { name := "dentLines", fn := fun _ => fun
  | [d1, d2, d3, d4] => { results := [.lit (.bool true)], args := [d1, d2, d3, d4] }
  | _ => none }
def dentLinesRow : OpenClaim := { program := "ytpcmkjimdhlhiaagreatdoor", sum := "081d9ff84ea4211f0e0feced34f1e7b5b3d6a71ad2c8d439048d7e848604dfe9", func := "transhumance/transhumancelaw7.DentLines", spec := "dentLines", inPlace := ["internal/bytealg.CountString", "internal/bytealg.IndexByteString", "internal/bytealg.IndexString", "internal/abi.NoEscape", "internal/bytealg.MakeNoZero"], unfollowed := true, recurses := true, named := ["internal/bytealg.MaxLen", "unicode/utf8.first", "unicode/utf8.acceptRanges", "bytes.ErrTooLarge"], apart := false, laid := [("unicode/utf8.acceptRanges", laid_unicode_utf8_acceptRanges), ("bytes.ErrTooLarge", laid_bytes_ErrTooLarge), ("unicode/utf8.first", laid_unicode_utf8_first)] }
def DentLinesSaid : Prop := dentLinesRow.holds Tryz.pinned (OpenSpec.ofChange dentLinesSpec)

/-- ITS FALSE NEIGHBOUR: 'it returns false'. Refute it at one input. -/
def dentLinesWrong : ChangeSpec := { name := "dentLines", fn := fun _ => fun
  | [d1, d2, d3, d4] => { results := [.lit (.bool false)], args := [d1, d2, d3, d4] }
  | _ => none }
def DentLinesWrongFalsely : Prop := dentLinesRow.holds Tryz.pinned (OpenSpec.ofChange dentLinesWrong)

/-- 'transhumancelaw7.DentBad': WHATEVER THE INPUT: true; the input reads as it did. -/
def dentBadSpec : ChangeSpec := { name := "dentBad", fn := fun _ => fun
  | [d1, d2, d3, d4] => { results := [.lit (.bool true)], args := [d1, d2, d3, d4] }
  | _ => none }
def dentBadRow : OpenClaim := { program := "ytpcmkjimdhlhiaagreatdoor", sum := "081d9ff84ea4211f0e0feced34f1e7b5b3d6a71ad2c8d439048d7e848604dfe9", func := "transhumance/transhumancelaw7.DentBad", spec := "dentBad", inPlace := ["internal/bytealg.CountString", "internal/bytealg.IndexByteString", "internal/bytealg.IndexString", "internal/abi.NoEscape", "internal/bytealg.MakeNoZero"], unfollowed := true, recurses := true, named := ["internal/bytealg.MaxLen", "unicode/utf8.first", "unicode/utf8.acceptRanges", "bytes.ErrTooLarge"], apart := false, laid := [("unicode/utf8.acceptRanges", laid_unicode_utf8_acceptRanges), ("bytes.ErrTooLarge", laid_bytes_ErrTooLarge), ("unicode/utf8.first", laid_unicode_utf8_first)] }
def DentBadSaid : Prop := dentBadRow.holds Tryz.pinned (OpenSpec.ofChange dentBadSpec)

/-- ITS FALSE NEIGHBOUR: 'it returns false'. Refute it at one input. -/
def dentBadWrong : ChangeSpec := { name := "dentBad", fn := fun _ => fun
  | [d1, d2, d3, d4] => { results := [.lit (.bool false)], args := [d1, d2, d3, d4] }
  | _ => none }
def DentBadWrongFalsely : Prop := dentBadRow.holds Tryz.pinned (OpenSpec.ofChange dentBadWrong)

/-- 'transhumancelaw7.DentOrder': WHATEVER THE INPUT: true; the input reads as it did. -/
def dentOrderSpec : ChangeSpec := { name := "dentOrder", fn := fun _ => fun
  | [d1, d2, d3] => { results := [.lit (.bool true)], args := [d1, d2, d3] }
  | _ => none }
def dentOrderRow : OpenClaim := { program := "ytpcmkjimdhlhiaagreatdoor", sum := "081d9ff84ea4211f0e0feced34f1e7b5b3d6a71ad2c8d439048d7e848604dfe9", func := "transhumance/transhumancelaw7.DentOrder", spec := "dentOrder", inPlace := ["internal/bytealg.CountString", "internal/bytealg.IndexByteString", "internal/bytealg.IndexString", "internal/abi.NoEscape", "internal/bytealg.MakeNoZero"], unfollowed := true, recurses := true, named := ["internal/bytealg.MaxLen", "unicode/utf8.first", "unicode/utf8.acceptRanges", "bytes.ErrTooLarge"], apart := false, laid := [("unicode/utf8.acceptRanges", laid_unicode_utf8_acceptRanges), ("bytes.ErrTooLarge", laid_bytes_ErrTooLarge), ("unicode/utf8.first", laid_unicode_utf8_first)] }
def DentOrderSaid : Prop := dentOrderRow.holds Tryz.pinned (OpenSpec.ofChange dentOrderSpec)

/-- ITS FALSE NEIGHBOUR: 'it returns false'. Refute it at one input. -/
def dentOrderWrong : ChangeSpec := { name := "dentOrder", fn := fun _ => fun
  | [d1, d2, d3] => { results := [.lit (.bool false)], args := [d1, d2, d3] }
  | _ => none }
def DentOrderWrongFalsely : Prop := dentOrderRow.holds Tryz.pinned (OpenSpec.ofChange dentOrderWrong)

/-- 'transhumancelaw7.DentEnds': WHATEVER THE INPUT: true; the input reads as it did. -/
def dentEndsSpec : ChangeSpec := { name := "dentEnds", fn := fun _ => fun
  | [d1, d2, d3] => { results := [.lit (.bool true)], args := [d1, d2, d3] }
  | _ => none }
def dentEndsRow : OpenClaim := { program := "ytpcmkjimdhlhiaagreatdoor", sum := "081d9ff84ea4211f0e0feced34f1e7b5b3d6a71ad2c8d439048d7e848604dfe9", func := "transhumance/transhumancelaw7.DentEnds", spec := "dentEnds", inPlace := ["internal/bytealg.CountString", "internal/bytealg.IndexByteString", "internal/bytealg.IndexString", "internal/abi.NoEscape", "internal/bytealg.MakeNoZero"], unfollowed := true, recurses := true, named := ["internal/bytealg.MaxLen", "unicode/utf8.first", "unicode/utf8.acceptRanges", "bytes.ErrTooLarge"], apart := false, laid := [("unicode/utf8.acceptRanges", laid_unicode_utf8_acceptRanges), ("bytes.ErrTooLarge", laid_bytes_ErrTooLarge), ("unicode/utf8.first", laid_unicode_utf8_first)] }
def DentEndsSaid : Prop := dentEndsRow.holds Tryz.pinned (OpenSpec.ofChange dentEndsSpec)

/-- ITS FALSE NEIGHBOUR: 'it returns false'. Refute it at one input. -/
def dentEndsWrong : ChangeSpec := { name := "dentEnds", fn := fun _ => fun
  | [d1, d2, d3] => { results := [.lit (.bool false)], args := [d1, d2, d3] }
  | _ => none }
def DentEndsWrongFalsely : Prop := dentEndsRow.holds Tryz.pinned (OpenSpec.ofChange dentEndsWrong)

/- THE SECOND FORM. 'bulk': how many values and letters a reading holds, each counted each time it is reached (what is shared counts as often as it is met; a slice's spare places count too). A statement '..UptoSaid' is the law's where the arguments, and the package variables that the reading takes, are together of bulk at most 1048576: NARROWER than '..Said'. Prove '..Said' where nothing that the law and all that it calls make is longer than what came in: it says more and counts as full. Else prove '..UptoSaid'. A law counts once. -/
mutual
def uptoBulk {H : Type} : DataW H → Nat
  | .lit (.string bytes) => bytes.length + 1
  | .lit _ => 1
  | .nil => 1
  | .ptr d => uptoBulk d + 1
  | .slice elems spare => uptoBulkAll elems + uptoBulkAll spare + 1
  | .agg parts => uptoBulkAll parts + 1
  | .iface _ d => uptoBulk d + 1
  | .map entries => uptoBulkEntries entries + 1
  | .held _ => 1
def uptoBulkAll {H : Type} : List (DataW H) → Nat
  | [] => 0
  | d :: r => uptoBulk d + uptoBulkAll r
def uptoBulkEntries {H : Type} : List (Lit × DataW H) → Nat
  | [] => 0
  | x :: r => uptoBulkEntry x + uptoBulkEntries r
def uptoBulkEntry {H : Type} : Lit × DataW H → Nat
  | (.string bytes, d) => bytes.length + uptoBulk d + 1
  | (_, d) => uptoBulk d + 1
 end
def uptoSmall : (H : Type) → List (DataW H) → Bool := fun _ ds => decide (uptoBulkAll ds ≤ 1048576)
def OpenSpec.upto (s : _root_.Go.ChangeSpec) : _root_.Go.OpenSpec := { _root_.Go.OpenSpec.ofChange s with cond := some uptoSmall }

/-- 'transhumancelaw7.DentLocks', WHERE WHAT IT READS IS OF BULK AT MOST 1048576: true; the input reads as it did. -/
def dentLocksUptoRow : OpenClaim := { program := "ytpcmkjimdhlhiaagreatdoor", sum := "081d9ff84ea4211f0e0feced34f1e7b5b3d6a71ad2c8d439048d7e848604dfe9", func := "transhumance/transhumancelaw7.DentLocks", spec := "dentLocks", inPlace := ["internal/bytealg.CountString", "internal/bytealg.IndexByteString", "internal/bytealg.IndexString", "internal/abi.NoEscape", "internal/bytealg.MakeNoZero"], unfollowed := true, recurses := true, named := ["internal/bytealg.MaxLen", "unicode/utf8.first", "unicode/utf8.acceptRanges", "bytes.ErrTooLarge"], apart := false, laid := [("unicode/utf8.acceptRanges", laid_unicode_utf8_acceptRanges), ("bytes.ErrTooLarge", laid_bytes_ErrTooLarge), ("unicode/utf8.first", laid_unicode_utf8_first)], narrowed := true }
def DentLocksUptoSaid : Prop := dentLocksUptoRow.holds Tryz.pinned (OpenSpec.upto dentLocksSpec)

/-- 'transhumancelaw7.DentReads', WHERE WHAT IT READS IS OF BULK AT MOST 1048576: true; the input reads as it did. -/
def dentReadsUptoRow : OpenClaim := { program := "ytpcmkjimdhlhiaagreatdoor", sum := "081d9ff84ea4211f0e0feced34f1e7b5b3d6a71ad2c8d439048d7e848604dfe9", func := "transhumance/transhumancelaw7.DentReads", spec := "dentReads", inPlace := ["internal/bytealg.CountString", "internal/bytealg.IndexByteString", "internal/bytealg.IndexString", "internal/abi.NoEscape", "internal/bytealg.MakeNoZero"], unfollowed := true, recurses := true, named := ["internal/bytealg.MaxLen", "unicode/utf8.first", "unicode/utf8.acceptRanges", "bytes.ErrTooLarge"], apart := false, laid := [("unicode/utf8.acceptRanges", laid_unicode_utf8_acceptRanges), ("bytes.ErrTooLarge", laid_bytes_ErrTooLarge), ("unicode/utf8.first", laid_unicode_utf8_first)], narrowed := true }
def DentReadsUptoSaid : Prop := dentReadsUptoRow.holds Tryz.pinned (OpenSpec.upto dentReadsSpec)

/-- 'transhumancelaw7.DentValues', WHERE WHAT IT READS IS OF BULK AT MOST 1048576: true; the input reads as it did. -/
def dentValuesUptoRow : OpenClaim := { program := "ytpcmkjimdhlhiaagreatdoor", sum := "081d9ff84ea4211f0e0feced34f1e7b5b3d6a71ad2c8d439048d7e848604dfe9", func := "transhumance/transhumancelaw7.DentValues", spec := "dentValues", inPlace := ["internal/bytealg.CountString", "internal/bytealg.IndexByteString", "internal/bytealg.IndexString", "internal/abi.NoEscape", "internal/bytealg.MakeNoZero"], unfollowed := true, recurses := true, named := ["internal/bytealg.MaxLen", "unicode/utf8.first", "unicode/utf8.acceptRanges", "bytes.ErrTooLarge"], apart := false, laid := [("unicode/utf8.acceptRanges", laid_unicode_utf8_acceptRanges), ("bytes.ErrTooLarge", laid_bytes_ErrTooLarge), ("unicode/utf8.first", laid_unicode_utf8_first)], narrowed := true }
def DentValuesUptoSaid : Prop := dentValuesUptoRow.holds Tryz.pinned (OpenSpec.upto dentValuesSpec)

/-- 'transhumancelaw7.DentLines', WHERE WHAT IT READS IS OF BULK AT MOST 1048576: true; the input reads as it did. -/
def dentLinesUptoRow : OpenClaim := { program := "ytpcmkjimdhlhiaagreatdoor", sum := "081d9ff84ea4211f0e0feced34f1e7b5b3d6a71ad2c8d439048d7e848604dfe9", func := "transhumance/transhumancelaw7.DentLines", spec := "dentLines", inPlace := ["internal/bytealg.CountString", "internal/bytealg.IndexByteString", "internal/bytealg.IndexString", "internal/abi.NoEscape", "internal/bytealg.MakeNoZero"], unfollowed := true, recurses := true, named := ["internal/bytealg.MaxLen", "unicode/utf8.first", "unicode/utf8.acceptRanges", "bytes.ErrTooLarge"], apart := false, laid := [("unicode/utf8.acceptRanges", laid_unicode_utf8_acceptRanges), ("bytes.ErrTooLarge", laid_bytes_ErrTooLarge), ("unicode/utf8.first", laid_unicode_utf8_first)], narrowed := true }
def DentLinesUptoSaid : Prop := dentLinesUptoRow.holds Tryz.pinned (OpenSpec.upto dentLinesSpec)

/-- 'transhumancelaw7.DentBad', WHERE WHAT IT READS IS OF BULK AT MOST 1048576: true; the input reads as it did. -/
def dentBadUptoRow : OpenClaim := { program := "ytpcmkjimdhlhiaagreatdoor", sum := "081d9ff84ea4211f0e0feced34f1e7b5b3d6a71ad2c8d439048d7e848604dfe9", func := "transhumance/transhumancelaw7.DentBad", spec := "dentBad", inPlace := ["internal/bytealg.CountString", "internal/bytealg.IndexByteString", "internal/bytealg.IndexString", "internal/abi.NoEscape", "internal/bytealg.MakeNoZero"], unfollowed := true, recurses := true, named := ["internal/bytealg.MaxLen", "unicode/utf8.first", "unicode/utf8.acceptRanges", "bytes.ErrTooLarge"], apart := false, laid := [("unicode/utf8.acceptRanges", laid_unicode_utf8_acceptRanges), ("bytes.ErrTooLarge", laid_bytes_ErrTooLarge), ("unicode/utf8.first", laid_unicode_utf8_first)], narrowed := true }
def DentBadUptoSaid : Prop := dentBadUptoRow.holds Tryz.pinned (OpenSpec.upto dentBadSpec)

/-- 'transhumancelaw7.DentOrder', WHERE WHAT IT READS IS OF BULK AT MOST 1048576: true; the input reads as it did. -/
def dentOrderUptoRow : OpenClaim := { program := "ytpcmkjimdhlhiaagreatdoor", sum := "081d9ff84ea4211f0e0feced34f1e7b5b3d6a71ad2c8d439048d7e848604dfe9", func := "transhumance/transhumancelaw7.DentOrder", spec := "dentOrder", inPlace := ["internal/bytealg.CountString", "internal/bytealg.IndexByteString", "internal/bytealg.IndexString", "internal/abi.NoEscape", "internal/bytealg.MakeNoZero"], unfollowed := true, recurses := true, named := ["internal/bytealg.MaxLen", "unicode/utf8.first", "unicode/utf8.acceptRanges", "bytes.ErrTooLarge"], apart := false, laid := [("unicode/utf8.acceptRanges", laid_unicode_utf8_acceptRanges), ("bytes.ErrTooLarge", laid_bytes_ErrTooLarge), ("unicode/utf8.first", laid_unicode_utf8_first)], narrowed := true }
def DentOrderUptoSaid : Prop := dentOrderUptoRow.holds Tryz.pinned (OpenSpec.upto dentOrderSpec)

/-- 'transhumancelaw7.DentEnds', WHERE WHAT IT READS IS OF BULK AT MOST 1048576: true; the input reads as it did. -/
def dentEndsUptoRow : OpenClaim := { program := "ytpcmkjimdhlhiaagreatdoor", sum := "081d9ff84ea4211f0e0feced34f1e7b5b3d6a71ad2c8d439048d7e848604dfe9", func := "transhumance/transhumancelaw7.DentEnds", spec := "dentEnds", inPlace := ["internal/bytealg.CountString", "internal/bytealg.IndexByteString", "internal/bytealg.IndexString", "internal/abi.NoEscape", "internal/bytealg.MakeNoZero"], unfollowed := true, recurses := true, named := ["internal/bytealg.MaxLen", "unicode/utf8.first", "unicode/utf8.acceptRanges", "bytes.ErrTooLarge"], apart := false, laid := [("unicode/utf8.acceptRanges", laid_unicode_utf8_acceptRanges), ("bytes.ErrTooLarge", laid_bytes_ErrTooLarge), ("unicode/utf8.first", laid_unicode_utf8_first)], narrowed := true }
def DentEndsUptoSaid : Prop := dentEndsUptoRow.holds Tryz.pinned (OpenSpec.upto dentEndsSpec)

end Rows
end Go.Proofs.YtpcmkjimdhlhiaaGreatDoor
