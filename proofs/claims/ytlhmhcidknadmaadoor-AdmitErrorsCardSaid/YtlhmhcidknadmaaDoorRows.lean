/-
  NARROWER THAN 'FOR EVERY INPUT', by the rows' own cells (each row's printed sentence says how): AdmitBound: laid · AdmitCritical: laid · AdmitBars: laid · AdmitErrors: laid · AdmitLess: laid.
  DERIVED. THE GIVEN ROWS OF THIS SEAT. 5 by the template 'for every input the law returns true; each argument reads behind the call as it read before'; 0 by the template 'total and deterministic' (their statements: YtlhmhcidknadmaaDoorTotals.lean).
  GIVEN WITH THE SEED: the statements are not yours to turn. If you find one false, say at which input.
  Laid BY PROGRAM, IN A SANDBOX (cutbox-rows.mjs): the forced cells as the released guide's own fill.sh prints them over the translation 0f03c3699616b5c0… (all of the seat's roots in one cut). By AI agents, Wed Nov 11 2026. No macro, syntax, notation, axiom, sorry.
-/
import Derived.Test.YtlhmhcidknadmaaDoorChecked
import GoSem.PinnedTables
import GoSem.Claim
import GoSem.ClaimJoined
import GoSem.ClaimMapViews
import Derived.JoinedTies
import Derived.KernelRfl
namespace Go.Proofs.YtlhmhcidknadmaaDoor
/- THE CELL 'sum', in the pinned program and in every row, IS THE sha256 OF THE DUMP (.gsa) THAT YtlhmhcidknadmaaDoorProg.lean LOADS. Nothing in Lean hashes anything: it is a label: what it is worth is what the hold of that sum in a sandbox is worth. -/
noncomputable def Tryd.pinned : Pinned := { name := "ytlhmhcidknadmaadoor", sum := "0f03c3699616b5c0f877f2ebba8e2a77f8545854a5e414f53882b8951814ef0f", checked := Tryd.checked }
namespace Rows
def none {H : Type} : Left H := { results := [], args := [] }

/- WHAT THE LISTED PACKAGE-LEVEL VARIABLES READ AS WHEN THE CALL BEGINS. Each datum BY PROGRAM (the guide's laid-datum.mjs) off the statement by which the dump's own 'gosem.cut.vars' lays the variable. In a bare row this is a premise. The card (YtlhmhcidknadmaaDoorCards.lean) ties it to the program's text. -/
def laid_unicode_utf8_acceptRanges {H : Type} : DataW H := .agg [.agg [.lit (.int .u8 128), .lit (.int .u8 191)], .agg [.lit (.int .u8 160), .lit (.int .u8 191)], .agg [.lit (.int .u8 128), .lit (.int .u8 159)], .agg [.lit (.int .u8 144), .lit (.int .u8 191)], .agg [.lit (.int .u8 128), .lit (.int .u8 143)], .agg [.lit (.int .u8 0), .lit (.int .u8 0)], .agg [.lit (.int .u8 0), .lit (.int .u8 0)], .agg [.lit (.int .u8 0), .lit (.int .u8 0)], .agg [.lit (.int .u8 0), .lit (.int .u8 0)], .agg [.lit (.int .u8 0), .lit (.int .u8 0)], .agg [.lit (.int .u8 0), .lit (.int .u8 0)], .agg [.lit (.int .u8 0), .lit (.int .u8 0)], .agg [.lit (.int .u8 0), .lit (.int .u8 0)], .agg [.lit (.int .u8 0), .lit (.int .u8 0)], .agg [.lit (.int .u8 0), .lit (.int .u8 0)], .agg [.lit (.int .u8 0), .lit (.int .u8 0)]]
/-- One of Go's own tables, pinned by name: the form's constant. -/
def laid_unicode_utf8_first : DataW Unit := Go.Pinned.utf8First

/-- 'bilgelaw23.AdmitBound': WHATEVER THE INPUT: true; the input reads as it did. -/
def admitBoundSpec : ChangeSpec := { name := "admitBound", fn := fun _ => fun
  | [d1, d2, d3, d4] => { results := [.lit (.bool true)], args := [d1, d2, d3, d4] }
  | _ => none }
def admitBoundRow : OpenClaim := { program := "ytlhmhcidknadmaadoor", sum := "0f03c3699616b5c0f877f2ebba8e2a77f8545854a5e414f53882b8951814ef0f", func := "bilge/bilgelaw23.AdmitBound", spec := "admitBound", inPlace := ["internal/bytealg.IndexByteString", "internal/bytealg.IndexString", "internal/bytealg.abigen_runtime_cmpstring"], unfollowed := true, recurses := true, named := ["unicode/utf8.first", "unicode/utf8.acceptRanges", "internal/bytealg.MaxLen"], apart := false, laid := [("unicode/utf8.acceptRanges", laid_unicode_utf8_acceptRanges), ("unicode/utf8.first", laid_unicode_utf8_first)] }
def AdmitBoundSaid : Prop := admitBoundRow.holds Tryd.pinned (OpenSpec.ofChange admitBoundSpec)

/-- ITS FALSE NEIGHBOUR: 'it returns false'. Refute it at one input. -/
def admitBoundWrong : ChangeSpec := { name := "admitBound", fn := fun _ => fun
  | [d1, d2, d3, d4] => { results := [.lit (.bool false)], args := [d1, d2, d3, d4] }
  | _ => none }
def AdmitBoundWrongFalsely : Prop := admitBoundRow.holds Tryd.pinned (OpenSpec.ofChange admitBoundWrong)

/-- 'bilgelaw23.AdmitCritical': WHATEVER THE INPUT: true; the input reads as it did. -/
def admitCriticalSpec : ChangeSpec := { name := "admitCritical", fn := fun _ => fun
  | [d1, d2, d3, d4] => { results := [.lit (.bool true)], args := [d1, d2, d3, d4] }
  | _ => none }
def admitCriticalRow : OpenClaim := { program := "ytlhmhcidknadmaadoor", sum := "0f03c3699616b5c0f877f2ebba8e2a77f8545854a5e414f53882b8951814ef0f", func := "bilge/bilgelaw23.AdmitCritical", spec := "admitCritical", inPlace := ["internal/bytealg.IndexByteString", "internal/bytealg.IndexString", "internal/bytealg.abigen_runtime_cmpstring"], unfollowed := true, recurses := true, named := ["unicode/utf8.first", "unicode/utf8.acceptRanges", "internal/bytealg.MaxLen"], apart := false, laid := [("unicode/utf8.acceptRanges", laid_unicode_utf8_acceptRanges), ("unicode/utf8.first", laid_unicode_utf8_first)] }
def AdmitCriticalSaid : Prop := admitCriticalRow.holds Tryd.pinned (OpenSpec.ofChange admitCriticalSpec)

/-- ITS FALSE NEIGHBOUR: 'it returns false'. Refute it at one input. -/
def admitCriticalWrong : ChangeSpec := { name := "admitCritical", fn := fun _ => fun
  | [d1, d2, d3, d4] => { results := [.lit (.bool false)], args := [d1, d2, d3, d4] }
  | _ => none }
def AdmitCriticalWrongFalsely : Prop := admitCriticalRow.holds Tryd.pinned (OpenSpec.ofChange admitCriticalWrong)

/-- 'bilgelaw23.AdmitBars': WHATEVER THE INPUT: true; the input reads as it did. -/
def admitBarsSpec : ChangeSpec := { name := "admitBars", fn := fun _ => fun
  | [d1, d2, d3] => { results := [.lit (.bool true)], args := [d1, d2, d3] }
  | _ => none }
def admitBarsRow : OpenClaim := { program := "ytlhmhcidknadmaadoor", sum := "0f03c3699616b5c0f877f2ebba8e2a77f8545854a5e414f53882b8951814ef0f", func := "bilge/bilgelaw23.AdmitBars", spec := "admitBars", inPlace := ["internal/bytealg.IndexByteString", "internal/bytealg.IndexString", "internal/bytealg.abigen_runtime_cmpstring"], unfollowed := true, recurses := true, named := ["unicode/utf8.first", "unicode/utf8.acceptRanges", "internal/bytealg.MaxLen"], apart := false, laid := [("unicode/utf8.acceptRanges", laid_unicode_utf8_acceptRanges), ("unicode/utf8.first", laid_unicode_utf8_first)] }
def AdmitBarsSaid : Prop := admitBarsRow.holds Tryd.pinned (OpenSpec.ofChange admitBarsSpec)

/-- ITS FALSE NEIGHBOUR: 'it returns false'. Refute it at one input. -/
def admitBarsWrong : ChangeSpec := { name := "admitBars", fn := fun _ => fun
  | [d1, d2, d3] => { results := [.lit (.bool false)], args := [d1, d2, d3] }
  | _ => none }
def AdmitBarsWrongFalsely : Prop := admitBarsRow.holds Tryd.pinned (OpenSpec.ofChange admitBarsWrong)

/-- 'bilgelaw23.AdmitErrors': WHATEVER THE INPUT: true; the input reads as it did. -/
def admitErrorsSpec : ChangeSpec := { name := "admitErrors", fn := fun _ => fun
  | [d1, d2, d3, d4] => { results := [.lit (.bool true)], args := [d1, d2, d3, d4] }
  | _ => none }
def admitErrorsRow : OpenClaim := { program := "ytlhmhcidknadmaadoor", sum := "0f03c3699616b5c0f877f2ebba8e2a77f8545854a5e414f53882b8951814ef0f", func := "bilge/bilgelaw23.AdmitErrors", spec := "admitErrors", inPlace := ["internal/bytealg.IndexByteString", "internal/bytealg.IndexString", "internal/bytealg.abigen_runtime_cmpstring"], unfollowed := true, recurses := true, named := ["unicode/utf8.first", "unicode/utf8.acceptRanges", "internal/bytealg.MaxLen"], apart := false, laid := [("unicode/utf8.acceptRanges", laid_unicode_utf8_acceptRanges), ("unicode/utf8.first", laid_unicode_utf8_first)] }
def AdmitErrorsSaid : Prop := admitErrorsRow.holds Tryd.pinned (OpenSpec.ofChange admitErrorsSpec)

/-- ITS FALSE NEIGHBOUR: 'it returns false'. Refute it at one input. -/
def admitErrorsWrong : ChangeSpec := { name := "admitErrors", fn := fun _ => fun
  | [d1, d2, d3, d4] => { results := [.lit (.bool false)], args := [d1, d2, d3, d4] }
  | _ => none }
def AdmitErrorsWrongFalsely : Prop := admitErrorsRow.holds Tryd.pinned (OpenSpec.ofChange admitErrorsWrong)

/-- 'bilgelaw23.AdmitLess': WHATEVER THE INPUT: true; the input reads as it did. -/
def admitLessSpec : ChangeSpec := { name := "admitLess", fn := fun _ => fun
  | [d1, d2, d3, d4] => { results := [.lit (.bool true)], args := [d1, d2, d3, d4] }
  | _ => none }
def admitLessRow : OpenClaim := { program := "ytlhmhcidknadmaadoor", sum := "0f03c3699616b5c0f877f2ebba8e2a77f8545854a5e414f53882b8951814ef0f", func := "bilge/bilgelaw23.AdmitLess", spec := "admitLess", inPlace := ["internal/bytealg.IndexByteString", "internal/bytealg.IndexString", "internal/bytealg.abigen_runtime_cmpstring"], unfollowed := true, recurses := true, named := ["unicode/utf8.first", "unicode/utf8.acceptRanges", "internal/bytealg.MaxLen"], apart := false, laid := [("unicode/utf8.acceptRanges", laid_unicode_utf8_acceptRanges), ("unicode/utf8.first", laid_unicode_utf8_first)] }
def AdmitLessSaid : Prop := admitLessRow.holds Tryd.pinned (OpenSpec.ofChange admitLessSpec)

/-- ITS FALSE NEIGHBOUR: 'it returns false'. Refute it at one input. -/
def admitLessWrong : ChangeSpec := { name := "admitLess", fn := fun _ => fun
  | [d1, d2, d3, d4] => { results := [.lit (.bool false)], args := [d1, d2, d3, d4] }
  | _ => none }
def AdmitLessWrongFalsely : Prop := admitLessRow.holds Tryd.pinned (OpenSpec.ofChange admitLessWrong)

/- THE SECOND FORM. 'bulk': how many values and letters a reading holds, each counted each time it is reached (what is shared counts as often as it is met; a slice's spare places count too). A statement '..UptoSaid' is the law's where the arguments, and the package variables that the reading takes, are together of bulk at most 1048576: NARROWER than '..Said'. Prove '..Said' where nothing that the law and all that it calls make is longer than what came in: it says more and counts as full. Else prove '..UptoSaid'. A law counts once. -/
mutual
def uptoBulk {H : Type} : DataW H → Nat
  | .lit (.string bytes) => bytes.length + 1
  | .lit _ => 1
  | .nil => 1
  | .ptr d => uptoBulk d + 1
  | .slice elems spare => uptoBulkAll elems + uptoBulkAll spare + 1
  | .agg parts => uptoBulkAll parts + 1
  | .iface _ d => uptoBulk d + 1
  | .map entries => uptoBulkEntries entries + 1
  | .held _ => 1
def uptoBulkAll {H : Type} : List (DataW H) → Nat
  | [] => 0
  | d :: r => uptoBulk d + uptoBulkAll r
def uptoBulkEntries {H : Type} : List (Lit × DataW H) → Nat
  | [] => 0
  | x :: r => uptoBulkEntry x + uptoBulkEntries r
def uptoBulkEntry {H : Type} : Lit × DataW H → Nat
  | (.string bytes, d) => bytes.length + uptoBulk d + 1
  | (_, d) => uptoBulk d + 1
 end
def uptoSmall : (H : Type) → List (DataW H) → Bool := fun _ ds => decide (uptoBulkAll ds ≤ 1048576)
def OpenSpec.upto (s : _root_.Go.ChangeSpec) : _root_.Go.OpenSpec := { _root_.Go.OpenSpec.ofChange s with cond := some uptoSmall }

/-- 'bilgelaw23.AdmitBound', WHERE WHAT IT READS IS OF BULK AT MOST 1048576: true; the input reads as it did. -/
def admitBoundUptoRow : OpenClaim := { program := "ytlhmhcidknadmaadoor", sum := "0f03c3699616b5c0f877f2ebba8e2a77f8545854a5e414f53882b8951814ef0f", func := "bilge/bilgelaw23.AdmitBound", spec := "admitBound", inPlace := ["internal/bytealg.IndexByteString", "internal/bytealg.IndexString", "internal/bytealg.abigen_runtime_cmpstring"], unfollowed := true, recurses := true, named := ["unicode/utf8.first", "unicode/utf8.acceptRanges", "internal/bytealg.MaxLen"], apart := false, laid := [("unicode/utf8.acceptRanges", laid_unicode_utf8_acceptRanges), ("unicode/utf8.first", laid_unicode_utf8_first)], narrowed := true }
def AdmitBoundUptoSaid : Prop := admitBoundUptoRow.holds Tryd.pinned (OpenSpec.upto admitBoundSpec)

/-- 'bilgelaw23.AdmitCritical', WHERE WHAT IT READS IS OF BULK AT MOST 1048576: true; the input reads as it did. -/
def admitCriticalUptoRow : OpenClaim := { program := "ytlhmhcidknadmaadoor", sum := "0f03c3699616b5c0f877f2ebba8e2a77f8545854a5e414f53882b8951814ef0f", func := "bilge/bilgelaw23.AdmitCritical", spec := "admitCritical", inPlace := ["internal/bytealg.IndexByteString", "internal/bytealg.IndexString", "internal/bytealg.abigen_runtime_cmpstring"], unfollowed := true, recurses := true, named := ["unicode/utf8.first", "unicode/utf8.acceptRanges", "internal/bytealg.MaxLen"], apart := false, laid := [("unicode/utf8.acceptRanges", laid_unicode_utf8_acceptRanges), ("unicode/utf8.first", laid_unicode_utf8_first)], narrowed := true }
def AdmitCriticalUptoSaid : Prop := admitCriticalUptoRow.holds Tryd.pinned (OpenSpec.upto admitCriticalSpec)

/-- 'bilgelaw23.AdmitBars', WHERE WHAT IT READS IS OF BULK AT MOST 1048576: true; the input reads as it did. -/
def admitBarsUptoRow : OpenClaim := { program := "ytlhmhcidknadmaadoor", sum := "0f03c3699616b5c0f877f2ebba8e2a77f8545854a5e414f53882b8951814ef0f", func := "bilge/bilgelaw23.AdmitBars", spec := "admitBars", inPlace := ["internal/bytealg.IndexByteString", "internal/bytealg.IndexString", "internal/bytealg.abigen_runtime_cmpstring"], unfollowed := true, recurses := true, named := ["unicode/utf8.first", "unicode/utf8.acceptRanges", "internal/bytealg.MaxLen"], apart := false, laid := [("unicode/utf8.acceptRanges", laid_unicode_utf8_acceptRanges), ("unicode/utf8.first", laid_unicode_utf8_first)], narrowed := true }
def AdmitBarsUptoSaid : Prop := admitBarsUptoRow.holds Tryd.pinned (OpenSpec.upto admitBarsSpec)

/-- 'bilgelaw23.AdmitErrors', WHERE WHAT IT READS IS OF BULK AT MOST 1048576: true; the input reads as it did. -/
def admitErrorsUptoRow : OpenClaim := { program := "ytlhmhcidknadmaadoor", sum := "0f03c3699616b5c0f877f2ebba8e2a77f8545854a5e414f53882b8951814ef0f", func := "bilge/bilgelaw23.AdmitErrors", spec := "admitErrors", inPlace := ["internal/bytealg.IndexByteString", "internal/bytealg.IndexString", "internal/bytealg.abigen_runtime_cmpstring"], unfollowed := true, recurses := true, named := ["unicode/utf8.first", "unicode/utf8.acceptRanges", "internal/bytealg.MaxLen"], apart := false, laid := [("unicode/utf8.acceptRanges", laid_unicode_utf8_acceptRanges), ("unicode/utf8.first", laid_unicode_utf8_first)], narrowed := true }
def AdmitErrorsUptoSaid : Prop := admitErrorsUptoRow.holds Tryd.pinned (OpenSpec.upto admitErrorsSpec)

/-- 'bilgelaw23.AdmitLess', WHERE WHAT IT READS IS OF BULK AT MOST 1048576: true; the input reads as it did. -/
def admitLessUptoRow : OpenClaim := { program := "ytlhmhcidknadmaadoor", sum := "0f03c3699616b5c0f877f2ebba8e2a77f8545854a5e414f53882b8951814ef0f", func := "bilge/bilgelaw23.AdmitLess", spec := "admitLess", inPlace := ["internal/bytealg.IndexByteString", "internal/bytealg.IndexString", "internal/bytealg.abigen_runtime_cmpstring"], unfollowed := true, recurses := true, named := ["unicode/utf8.first", "unicode/utf8.acceptRanges", "internal/bytealg.MaxLen"], apart := false, laid := [("unicode/utf8.acceptRanges", laid_unicode_utf8_acceptRanges), ("unicode/utf8.first", laid_unicode_utf8_first)], narrowed := true }
def AdmitLessUptoSaid : Prop := admitLessUptoRow.holds Tryd.pinned (OpenSpec.upto admitLessSpec)

end Rows
end Go.Proofs.YtlhmhcidknadmaaDoor
