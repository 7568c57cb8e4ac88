/-
  NARROWER THAN 'FOR EVERY INPUT', by the rows' own cells (each row's printed sentence says how): SampleReads: laid · SampleTakes: laid · SampleWhole: laid · SampleOnce: laid · SampleTurned: laid · SampleKeeps: laid · SampleSigns: laid.
  DERIVED. THE GIVEN ROWS OF THIS SEAT. 7 by the template 'for every input the law returns true; each argument reads behind the call as it read before'; 0 by the template 'total and deterministic' (their statements: YtampjkgkiooibaaDoorTotals.lean).
  GIVEN WITH THE SEED: the statements are not yours to turn. If you find one false, say at which input.
  Laid BY PROGRAM, IN A SANDBOX (cutbox-rows.mjs): the forced cells as the released guide's own fill.sh prints them over the translation 6ac350663dde858c… (all of the seat's roots in one cut). By AI agents, Wed Nov 11 2026. No macro, syntax, notation, axiom, sorry.
-/
import Derived.Test.YtampjkgkiooibaaDoorChecked
import GoSem.PinnedTables
import GoSem.Claim
import GoSem.ClaimJoined
import GoSem.ClaimMapViews
import Derived.JoinedTies
import Derived.KernelRfl
namespace Go.Proofs.YtampjkgkiooibaaDoor
/- THE CELL 'sum', in the pinned program and in every row, IS THE sha256 OF THE DUMP (.gsa) THAT YtampjkgkiooibaaDoorProg.lean LOADS. Nothing in Lean hashes anything: it is a label: what it is worth is what the hold of that sum in a sandbox is worth. -/
noncomputable def Tryd.pinned : Pinned := { name := "ytampjkgkiooibaadoor", sum := "6ac350663dde858ccdd9814ac1a37a7deb30f391bb5d8d9b3a89fb62f4f1c6ac", checked := Tryd.checked }
namespace Rows
def none {H : Type} : Left H := { results := [], args := [] }

/- WHAT THE LISTED PACKAGE-LEVEL VARIABLES READ AS WHEN THE CALL BEGINS. Each datum BY PROGRAM (the guide's laid-datum.mjs) off the statement by which the dump's own 'gosem.cut.vars' lays the variable. In a bare row this is a premise. The card (YtampjkgkiooibaaDoorCards.lean) ties it to the program's text. -/
def laid_unicode_utf8_acceptRanges {H : Type} : DataW H := .agg [.agg [.lit (.int .u8 128), .lit (.int .u8 191)], .agg [.lit (.int .u8 160), .lit (.int .u8 191)], .agg [.lit (.int .u8 128), .lit (.int .u8 159)], .agg [.lit (.int .u8 144), .lit (.int .u8 191)], .agg [.lit (.int .u8 128), .lit (.int .u8 143)], .agg [.lit (.int .u8 0), .lit (.int .u8 0)], .agg [.lit (.int .u8 0), .lit (.int .u8 0)], .agg [.lit (.int .u8 0), .lit (.int .u8 0)], .agg [.lit (.int .u8 0), .lit (.int .u8 0)], .agg [.lit (.int .u8 0), .lit (.int .u8 0)], .agg [.lit (.int .u8 0), .lit (.int .u8 0)], .agg [.lit (.int .u8 0), .lit (.int .u8 0)], .agg [.lit (.int .u8 0), .lit (.int .u8 0)], .agg [.lit (.int .u8 0), .lit (.int .u8 0)], .agg [.lit (.int .u8 0), .lit (.int .u8 0)], .agg [.lit (.int .u8 0), .lit (.int .u8 0)]]
/-- One of Go's own tables, pinned by name: the form's constant. -/
def laid_unicode_utf8_first : DataW Unit := Go.Pinned.utf8First

/-- 'bilgelaw17.SampleReads': WHATEVER THE INPUT: true; the input reads as it did. -/
def sampleReadsSpec : ChangeSpec := { name := "sampleReads", fn := fun _ => fun
  | [d1, d2] => { results := [.lit (.bool true)], args := [d1, d2] }
  | _ => none }
def sampleReadsRow : OpenClaim := { program := "ytampjkgkiooibaadoor", sum := "6ac350663dde858ccdd9814ac1a37a7deb30f391bb5d8d9b3a89fb62f4f1c6ac", func := "bilge/bilgelaw17.SampleReads", spec := "sampleReads", inPlace := ["math.Float64bits", "math.Float64frombits", "math.archFloor", "math.archTrunc", "internal/bytealg.IndexByteString", "internal/bytealg.IndexString", "internal/bytealg.abigen_runtime_cmpstring"], unfollowed := true, recurses := true, named := ["unicode/utf8.first", "unicode/utf8.acceptRanges", "internal/bytealg.MaxLen"], apart := false, laid := [("unicode/utf8.acceptRanges", laid_unicode_utf8_acceptRanges), ("unicode/utf8.first", laid_unicode_utf8_first)] }
def SampleReadsSaid : Prop := sampleReadsRow.holds Tryd.pinned (OpenSpec.ofChange sampleReadsSpec)

/-- ITS FALSE NEIGHBOUR: 'it returns false'. Refute it at one input. -/
def sampleReadsWrong : ChangeSpec := { name := "sampleReads", fn := fun _ => fun
  | [d1, d2] => { results := [.lit (.bool false)], args := [d1, d2] }
  | _ => none }
def SampleReadsWrongFalsely : Prop := sampleReadsRow.holds Tryd.pinned (OpenSpec.ofChange sampleReadsWrong)

/-- 'bilgelaw17.SampleTakes': WHATEVER THE INPUT: true; the input reads as it did. -/
def sampleTakesSpec : ChangeSpec := { name := "sampleTakes", fn := fun _ => fun
  | [d1, d2, d3, d4] => { results := [.lit (.bool true)], args := [d1, d2, d3, d4] }
  | _ => none }
def sampleTakesRow : OpenClaim := { program := "ytampjkgkiooibaadoor", sum := "6ac350663dde858ccdd9814ac1a37a7deb30f391bb5d8d9b3a89fb62f4f1c6ac", func := "bilge/bilgelaw17.SampleTakes", spec := "sampleTakes", inPlace := ["math.Float64bits", "math.Float64frombits", "math.archFloor", "math.archTrunc", "internal/bytealg.IndexByteString", "internal/bytealg.IndexString", "internal/bytealg.abigen_runtime_cmpstring"], unfollowed := true, recurses := true, named := ["unicode/utf8.first", "unicode/utf8.acceptRanges", "internal/bytealg.MaxLen"], apart := false, laid := [("unicode/utf8.acceptRanges", laid_unicode_utf8_acceptRanges), ("unicode/utf8.first", laid_unicode_utf8_first)] }
def SampleTakesSaid : Prop := sampleTakesRow.holds Tryd.pinned (OpenSpec.ofChange sampleTakesSpec)

/-- ITS FALSE NEIGHBOUR: 'it returns false'. Refute it at one input. -/
def sampleTakesWrong : ChangeSpec := { name := "sampleTakes", fn := fun _ => fun
  | [d1, d2, d3, d4] => { results := [.lit (.bool false)], args := [d1, d2, d3, d4] }
  | _ => none }
def SampleTakesWrongFalsely : Prop := sampleTakesRow.holds Tryd.pinned (OpenSpec.ofChange sampleTakesWrong)

/-- 'bilgelaw17.SampleWhole': WHATEVER THE INPUT: true; the input reads as it did. -/
def sampleWholeSpec : ChangeSpec := { name := "sampleWhole", fn := fun _ => fun
  | [d1, d2] => { results := [.lit (.bool true)], args := [d1, d2] }
  | _ => none }
def sampleWholeRow : OpenClaim := { program := "ytampjkgkiooibaadoor", sum := "6ac350663dde858ccdd9814ac1a37a7deb30f391bb5d8d9b3a89fb62f4f1c6ac", func := "bilge/bilgelaw17.SampleWhole", spec := "sampleWhole", inPlace := ["math.Float64bits", "math.Float64frombits", "math.archFloor", "math.archTrunc", "internal/bytealg.IndexByteString", "internal/bytealg.IndexString", "internal/bytealg.abigen_runtime_cmpstring"], unfollowed := true, recurses := true, named := ["unicode/utf8.first", "unicode/utf8.acceptRanges", "internal/bytealg.MaxLen"], apart := false, laid := [("unicode/utf8.acceptRanges", laid_unicode_utf8_acceptRanges), ("unicode/utf8.first", laid_unicode_utf8_first)] }
def SampleWholeSaid : Prop := sampleWholeRow.holds Tryd.pinned (OpenSpec.ofChange sampleWholeSpec)

/-- ITS FALSE NEIGHBOUR: 'it returns false'. Refute it at one input. -/
def sampleWholeWrong : ChangeSpec := { name := "sampleWhole", fn := fun _ => fun
  | [d1, d2] => { results := [.lit (.bool false)], args := [d1, d2] }
  | _ => none }
def SampleWholeWrongFalsely : Prop := sampleWholeRow.holds Tryd.pinned (OpenSpec.ofChange sampleWholeWrong)

/-- 'bilgelaw17.SampleOnce': WHATEVER THE INPUT: true; the input reads as it did. -/
def sampleOnceSpec : ChangeSpec := { name := "sampleOnce", fn := fun _ => fun
  | [d1, d2, d3, d4, d5] => { results := [.lit (.bool true)], args := [d1, d2, d3, d4, d5] }
  | _ => none }
def sampleOnceRow : OpenClaim := { program := "ytampjkgkiooibaadoor", sum := "6ac350663dde858ccdd9814ac1a37a7deb30f391bb5d8d9b3a89fb62f4f1c6ac", func := "bilge/bilgelaw17.SampleOnce", spec := "sampleOnce", inPlace := ["math.Float64bits", "math.Float64frombits", "math.archFloor", "math.archTrunc", "internal/bytealg.IndexByteString", "internal/bytealg.IndexString", "internal/bytealg.abigen_runtime_cmpstring"], unfollowed := true, recurses := true, named := ["unicode/utf8.first", "unicode/utf8.acceptRanges", "internal/bytealg.MaxLen"], apart := false, laid := [("unicode/utf8.acceptRanges", laid_unicode_utf8_acceptRanges), ("unicode/utf8.first", laid_unicode_utf8_first)] }
def SampleOnceSaid : Prop := sampleOnceRow.holds Tryd.pinned (OpenSpec.ofChange sampleOnceSpec)

/-- ITS FALSE NEIGHBOUR: 'it returns false'. Refute it at one input. -/
def sampleOnceWrong : ChangeSpec := { name := "sampleOnce", fn := fun _ => fun
  | [d1, d2, d3, d4, d5] => { results := [.lit (.bool false)], args := [d1, d2, d3, d4, d5] }
  | _ => none }
def SampleOnceWrongFalsely : Prop := sampleOnceRow.holds Tryd.pinned (OpenSpec.ofChange sampleOnceWrong)

/-- 'bilgelaw17.SampleTurned': WHATEVER THE INPUT: true; the input reads as it did. -/
def sampleTurnedSpec : ChangeSpec := { name := "sampleTurned", fn := fun _ => fun
  | [d1, d2] => { results := [.lit (.bool true)], args := [d1, d2] }
  | _ => none }
def sampleTurnedRow : OpenClaim := { program := "ytampjkgkiooibaadoor", sum := "6ac350663dde858ccdd9814ac1a37a7deb30f391bb5d8d9b3a89fb62f4f1c6ac", func := "bilge/bilgelaw17.SampleTurned", spec := "sampleTurned", inPlace := ["math.Float64bits", "math.Float64frombits", "math.archFloor", "math.archTrunc", "internal/bytealg.IndexByteString", "internal/bytealg.IndexString", "internal/bytealg.abigen_runtime_cmpstring"], unfollowed := true, recurses := true, named := ["unicode/utf8.first", "unicode/utf8.acceptRanges", "internal/bytealg.MaxLen"], apart := false, laid := [("unicode/utf8.acceptRanges", laid_unicode_utf8_acceptRanges), ("unicode/utf8.first", laid_unicode_utf8_first)] }
def SampleTurnedSaid : Prop := sampleTurnedRow.holds Tryd.pinned (OpenSpec.ofChange sampleTurnedSpec)

/-- ITS FALSE NEIGHBOUR: 'it returns false'. Refute it at one input. -/
def sampleTurnedWrong : ChangeSpec := { name := "sampleTurned", fn := fun _ => fun
  | [d1, d2] => { results := [.lit (.bool false)], args := [d1, d2] }
  | _ => none }
def SampleTurnedWrongFalsely : Prop := sampleTurnedRow.holds Tryd.pinned (OpenSpec.ofChange sampleTurnedWrong)

/-- 'bilgelaw17.SampleKeeps': WHATEVER THE INPUT: true; the input reads as it did. -/
def sampleKeepsSpec : ChangeSpec := { name := "sampleKeeps", fn := fun _ => fun
  | [d] => { results := [.lit (.bool true)], args := [d] }
  | _ => none }
def sampleKeepsRow : OpenClaim := { program := "ytampjkgkiooibaadoor", sum := "6ac350663dde858ccdd9814ac1a37a7deb30f391bb5d8d9b3a89fb62f4f1c6ac", func := "bilge/bilgelaw17.SampleKeeps", spec := "sampleKeeps", inPlace := ["math.Float64bits", "math.Float64frombits", "math.archFloor", "math.archTrunc", "internal/bytealg.IndexByteString", "internal/bytealg.IndexString", "internal/bytealg.abigen_runtime_cmpstring"], unfollowed := true, recurses := true, named := ["unicode/utf8.first", "unicode/utf8.acceptRanges", "internal/bytealg.MaxLen"], apart := false, laid := [("unicode/utf8.acceptRanges", laid_unicode_utf8_acceptRanges), ("unicode/utf8.first", laid_unicode_utf8_first)] }
def SampleKeepsSaid : Prop := sampleKeepsRow.holds Tryd.pinned (OpenSpec.ofChange sampleKeepsSpec)

/-- ITS FALSE NEIGHBOUR: 'it returns false'. Refute it at one input. -/
def sampleKeepsWrong : ChangeSpec := { name := "sampleKeeps", fn := fun _ => fun
  | [d] => { results := [.lit (.bool false)], args := [d] }
  | _ => none }
def SampleKeepsWrongFalsely : Prop := sampleKeepsRow.holds Tryd.pinned (OpenSpec.ofChange sampleKeepsWrong)

/-- 'bilgelaw17.SampleSigns': WHATEVER THE INPUT: true; the input reads as it did. -/
def sampleSignsSpec : ChangeSpec := { name := "sampleSigns", fn := fun _ => fun
  | [d1, d2] => { results := [.lit (.bool true)], args := [d1, d2] }
  | _ => none }
def sampleSignsRow : OpenClaim := { program := "ytampjkgkiooibaadoor", sum := "6ac350663dde858ccdd9814ac1a37a7deb30f391bb5d8d9b3a89fb62f4f1c6ac", func := "bilge/bilgelaw17.SampleSigns", spec := "sampleSigns", inPlace := ["math.Float64bits", "math.Float64frombits", "math.archFloor", "math.archTrunc", "internal/bytealg.IndexByteString", "internal/bytealg.IndexString", "internal/bytealg.abigen_runtime_cmpstring"], unfollowed := true, recurses := true, named := ["unicode/utf8.first", "unicode/utf8.acceptRanges", "internal/bytealg.MaxLen"], apart := false, laid := [("unicode/utf8.acceptRanges", laid_unicode_utf8_acceptRanges), ("unicode/utf8.first", laid_unicode_utf8_first)] }
def SampleSignsSaid : Prop := sampleSignsRow.holds Tryd.pinned (OpenSpec.ofChange sampleSignsSpec)

/-- ITS FALSE NEIGHBOUR: 'it returns false'. Refute it at one input. -/
def sampleSignsWrong : ChangeSpec := { name := "sampleSigns", fn := fun _ => fun
  | [d1, d2] => { results := [.lit (.bool false)], args := [d1, d2] }
  | _ => none }
def SampleSignsWrongFalsely : Prop := sampleSignsRow.holds Tryd.pinned (OpenSpec.ofChange sampleSignsWrong)

/- THE SECOND FORM. 'bulk': how many values and letters a reading holds, each counted each time it is reached (what is shared counts as often as it is met; a slice's spare places count too). A statement '..UptoSaid' is the law's where the arguments, and the package variables that the reading takes, are together of bulk at most 1048576: NARROWER than '..Said'. Prove '..Said' where nothing that the law and all that it calls make is longer than what came in: it says more and counts as full. Else prove '..UptoSaid'. A law counts once. -/
mutual
def uptoBulk {H : Type} : DataW H → Nat
  | .lit (.string bytes) => bytes.length + 1
  | .lit _ => 1
  | .nil => 1
  | .ptr d => uptoBulk d + 1
  | .slice elems spare => uptoBulkAll elems + uptoBulkAll spare + 1
  | .agg parts => uptoBulkAll parts + 1
  | .iface _ d => uptoBulk d + 1
  | .map entries => uptoBulkEntries entries + 1
  | .held _ => 1
def uptoBulkAll {H : Type} : List (DataW H) → Nat
  | [] => 0
  | d :: r => uptoBulk d + uptoBulkAll r
def uptoBulkEntries {H : Type} : List (Lit × DataW H) → Nat
  | [] => 0
  | x :: r => uptoBulkEntry x + uptoBulkEntries r
def uptoBulkEntry {H : Type} : Lit × DataW H → Nat
  | (.string bytes, d) => bytes.length + uptoBulk d + 1
  | (_, d) => uptoBulk d + 1
 end
def uptoSmall : (H : Type) → List (DataW H) → Bool := fun _ ds => decide (uptoBulkAll ds ≤ 1048576)
def OpenSpec.upto (s : _root_.Go.ChangeSpec) : _root_.Go.OpenSpec := { _root_.Go.OpenSpec.ofChange s with cond := some uptoSmall }

/-- 'bilgelaw17.SampleReads', WHERE WHAT IT READS IS OF BULK AT MOST 1048576: true; the input reads as it did. -/
def sampleReadsUptoRow : OpenClaim := { program := "ytampjkgkiooibaadoor", sum := "6ac350663dde858ccdd9814ac1a37a7deb30f391bb5d8d9b3a89fb62f4f1c6ac", func := "bilge/bilgelaw17.SampleReads", spec := "sampleReads", inPlace := ["math.Float64bits", "math.Float64frombits", "math.archFloor", "math.archTrunc", "internal/bytealg.IndexByteString", "internal/bytealg.IndexString", "internal/bytealg.abigen_runtime_cmpstring"], unfollowed := true, recurses := true, named := ["unicode/utf8.first", "unicode/utf8.acceptRanges", "internal/bytealg.MaxLen"], apart := false, laid := [("unicode/utf8.acceptRanges", laid_unicode_utf8_acceptRanges), ("unicode/utf8.first", laid_unicode_utf8_first)], narrowed := true }
def SampleReadsUptoSaid : Prop := sampleReadsUptoRow.holds Tryd.pinned (OpenSpec.upto sampleReadsSpec)

/-- 'bilgelaw17.SampleTakes', WHERE WHAT IT READS IS OF BULK AT MOST 1048576: true; the input reads as it did. -/
def sampleTakesUptoRow : OpenClaim := { program := "ytampjkgkiooibaadoor", sum := "6ac350663dde858ccdd9814ac1a37a7deb30f391bb5d8d9b3a89fb62f4f1c6ac", func := "bilge/bilgelaw17.SampleTakes", spec := "sampleTakes", inPlace := ["math.Float64bits", "math.Float64frombits", "math.archFloor", "math.archTrunc", "internal/bytealg.IndexByteString", "internal/bytealg.IndexString", "internal/bytealg.abigen_runtime_cmpstring"], unfollowed := true, recurses := true, named := ["unicode/utf8.first", "unicode/utf8.acceptRanges", "internal/bytealg.MaxLen"], apart := false, laid := [("unicode/utf8.acceptRanges", laid_unicode_utf8_acceptRanges), ("unicode/utf8.first", laid_unicode_utf8_first)], narrowed := true }
def SampleTakesUptoSaid : Prop := sampleTakesUptoRow.holds Tryd.pinned (OpenSpec.upto sampleTakesSpec)

/-- 'bilgelaw17.SampleWhole', WHERE WHAT IT READS IS OF BULK AT MOST 1048576: true; the input reads as it did. -/
def sampleWholeUptoRow : OpenClaim := { program := "ytampjkgkiooibaadoor", sum := "6ac350663dde858ccdd9814ac1a37a7deb30f391bb5d8d9b3a89fb62f4f1c6ac", func := "bilge/bilgelaw17.SampleWhole", spec := "sampleWhole", inPlace := ["math.Float64bits", "math.Float64frombits", "math.archFloor", "math.archTrunc", "internal/bytealg.IndexByteString", "internal/bytealg.IndexString", "internal/bytealg.abigen_runtime_cmpstring"], unfollowed := true, recurses := true, named := ["unicode/utf8.first", "unicode/utf8.acceptRanges", "internal/bytealg.MaxLen"], apart := false, laid := [("unicode/utf8.acceptRanges", laid_unicode_utf8_acceptRanges), ("unicode/utf8.first", laid_unicode_utf8_first)], narrowed := true }
def SampleWholeUptoSaid : Prop := sampleWholeUptoRow.holds Tryd.pinned (OpenSpec.upto sampleWholeSpec)

/-- 'bilgelaw17.SampleOnce', WHERE WHAT IT READS IS OF BULK AT MOST 1048576: true; the input reads as it did. -/
def sampleOnceUptoRow : OpenClaim := { program := "ytampjkgkiooibaadoor", sum := "6ac350663dde858ccdd9814ac1a37a7deb30f391bb5d8d9b3a89fb62f4f1c6ac", func := "bilge/bilgelaw17.SampleOnce", spec := "sampleOnce", inPlace := ["math.Float64bits", "math.Float64frombits", "math.archFloor", "math.archTrunc", "internal/bytealg.IndexByteString", "internal/bytealg.IndexString", "internal/bytealg.abigen_runtime_cmpstring"], unfollowed := true, recurses := true, named := ["unicode/utf8.first", "unicode/utf8.acceptRanges", "internal/bytealg.MaxLen"], apart := false, laid := [("unicode/utf8.acceptRanges", laid_unicode_utf8_acceptRanges), ("unicode/utf8.first", laid_unicode_utf8_first)], narrowed := true }
def SampleOnceUptoSaid : Prop := sampleOnceUptoRow.holds Tryd.pinned (OpenSpec.upto sampleOnceSpec)

/-- 'bilgelaw17.SampleTurned', WHERE WHAT IT READS IS OF BULK AT MOST 1048576: true; the input reads as it did. -/
def sampleTurnedUptoRow : OpenClaim := { program := "ytampjkgkiooibaadoor", sum := "6ac350663dde858ccdd9814ac1a37a7deb30f391bb5d8d9b3a89fb62f4f1c6ac", func := "bilge/bilgelaw17.SampleTurned", spec := "sampleTurned", inPlace := ["math.Float64bits", "math.Float64frombits", "math.archFloor", "math.archTrunc", "internal/bytealg.IndexByteString", "internal/bytealg.IndexString", "internal/bytealg.abigen_runtime_cmpstring"], unfollowed := true, recurses := true, named := ["unicode/utf8.first", "unicode/utf8.acceptRanges", "internal/bytealg.MaxLen"], apart := false, laid := [("unicode/utf8.acceptRanges", laid_unicode_utf8_acceptRanges), ("unicode/utf8.first", laid_unicode_utf8_first)], narrowed := true }
def SampleTurnedUptoSaid : Prop := sampleTurnedUptoRow.holds Tryd.pinned (OpenSpec.upto sampleTurnedSpec)

/-- 'bilgelaw17.SampleKeeps', WHERE WHAT IT READS IS OF BULK AT MOST 1048576: true; the input reads as it did. -/
def sampleKeepsUptoRow : OpenClaim := { program := "ytampjkgkiooibaadoor", sum := "6ac350663dde858ccdd9814ac1a37a7deb30f391bb5d8d9b3a89fb62f4f1c6ac", func := "bilge/bilgelaw17.SampleKeeps", spec := "sampleKeeps", inPlace := ["math.Float64bits", "math.Float64frombits", "math.archFloor", "math.archTrunc", "internal/bytealg.IndexByteString", "internal/bytealg.IndexString", "internal/bytealg.abigen_runtime_cmpstring"], unfollowed := true, recurses := true, named := ["unicode/utf8.first", "unicode/utf8.acceptRanges", "internal/bytealg.MaxLen"], apart := false, laid := [("unicode/utf8.acceptRanges", laid_unicode_utf8_acceptRanges), ("unicode/utf8.first", laid_unicode_utf8_first)], narrowed := true }
def SampleKeepsUptoSaid : Prop := sampleKeepsUptoRow.holds Tryd.pinned (OpenSpec.upto sampleKeepsSpec)

/-- 'bilgelaw17.SampleSigns', WHERE WHAT IT READS IS OF BULK AT MOST 1048576: true; the input reads as it did. -/
def sampleSignsUptoRow : OpenClaim := { program := "ytampjkgkiooibaadoor", sum := "6ac350663dde858ccdd9814ac1a37a7deb30f391bb5d8d9b3a89fb62f4f1c6ac", func := "bilge/bilgelaw17.SampleSigns", spec := "sampleSigns", inPlace := ["math.Float64bits", "math.Float64frombits", "math.archFloor", "math.archTrunc", "internal/bytealg.IndexByteString", "internal/bytealg.IndexString", "internal/bytealg.abigen_runtime_cmpstring"], unfollowed := true, recurses := true, named := ["unicode/utf8.first", "unicode/utf8.acceptRanges", "internal/bytealg.MaxLen"], apart := false, laid := [("unicode/utf8.acceptRanges", laid_unicode_utf8_acceptRanges), ("unicode/utf8.first", laid_unicode_utf8_first)], narrowed := true }
def SampleSignsUptoSaid : Prop := sampleSignsUptoRow.holds Tryd.pinned (OpenSpec.upto sampleSignsSpec)

end Rows
end Go.Proofs.YtampjkgkiooibaaDoor
