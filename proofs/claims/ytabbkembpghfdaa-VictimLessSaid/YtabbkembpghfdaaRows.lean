/-
  No cell of these rows narrows 'for every input' (looked for: loops, veiled, ifaces, maps, wideKeys, modest, calm, conditions, laid).
  DERIVED. THE GIVEN ROWS OF THIS SEAT. 9 by the template 'for every input the law returns true; each argument reads behind the call as it read before'; 0 by the template 'total and deterministic' (their statements: YtabbkembpghfdaaTotals.lean).
  GIVEN WITH THE SEED: the statements are not yours to turn. If you find one false, say at which input.
  Laid BY PROGRAM, IN A SANDBOX (cutbox-rows.mjs): the forced cells as the released guide's own fill.sh prints them over the translation 42189e2738cda6b8… (all of the seat's roots in one cut). By AI agents, Wed Nov 11 2026. No macro, syntax, notation, axiom, sorry.
-/
import Derived.Test.YtabbkembpghfdaaChecked
import GoSem.Claim
import GoSem.ClaimJoined
import GoSem.ClaimMapViews
import Derived.JoinedTies
import Derived.KernelRfl
namespace Go.Proofs.Ytabbkembpghfdaa
/- THE CELL 'sum', in the pinned program and in every row, IS THE sha256 OF THE DUMP (.gsa) THAT YtabbkembpghfdaaProg.lean LOADS. Nothing in Lean hashes anything: it is a label: what it is worth is what the hold of that sum in a sandbox is worth. -/
noncomputable def Try.pinned : Pinned := { name := "ytabbkembpghfdaa", sum := "42189e2738cda6b8b38eb59cdea6b1e2602ec00958e125d9d38054eac6e3db37", checked := Try.checked }
namespace Rows
def none {H : Type} : Left H := { results := [], args := [] }

/-- 'bilgelaw21.VictimChooses': WHATEVER THE INPUT: true; the input reads as it did. -/
def victimChoosesSpec : ChangeSpec := { name := "victimChooses", fn := fun _ => fun
  | [d1, d2, d3] => { results := [.lit (.bool true)], args := [d1, d2, d3] }
  | _ => none }
def victimChoosesRow : OpenClaim := { program := "ytabbkembpghfdaa", sum := "42189e2738cda6b8b38eb59cdea6b1e2602ec00958e125d9d38054eac6e3db37", func := "bilge/bilgelaw21.VictimChooses", spec := "victimChooses", inPlace := ["internal/bytealg.abigen_runtime_cmpstring"], unfollowed := true, recurses := true, apart := false }
def VictimChoosesSaid : Prop := victimChoosesRow.holds Try.pinned (OpenSpec.ofChange victimChoosesSpec)

/-- ITS FALSE NEIGHBOUR: 'it returns false'. Refute it at one input. -/
def victimChoosesWrong : ChangeSpec := { name := "victimChooses", fn := fun _ => fun
  | [d1, d2, d3] => { results := [.lit (.bool false)], args := [d1, d2, d3] }
  | _ => none }
def VictimChoosesWrongFalsely : Prop := victimChoosesRow.holds Try.pinned (OpenSpec.ofChange victimChoosesWrong)

/-- 'bilgelaw21.VictimExact': WHATEVER THE INPUT: true; the input reads as it did. -/
def victimExactSpec : ChangeSpec := { name := "victimExact", fn := fun _ => fun
  | [d1, d2, d3] => { results := [.lit (.bool true)], args := [d1, d2, d3] }
  | _ => none }
def victimExactRow : OpenClaim := { program := "ytabbkembpghfdaa", sum := "42189e2738cda6b8b38eb59cdea6b1e2602ec00958e125d9d38054eac6e3db37", func := "bilge/bilgelaw21.VictimExact", spec := "victimExact", inPlace := ["internal/bytealg.abigen_runtime_cmpstring"], unfollowed := true, recurses := true, apart := false }
def VictimExactSaid : Prop := victimExactRow.holds Try.pinned (OpenSpec.ofChange victimExactSpec)

/-- ITS FALSE NEIGHBOUR: 'it returns false'. Refute it at one input. -/
def victimExactWrong : ChangeSpec := { name := "victimExact", fn := fun _ => fun
  | [d1, d2, d3] => { results := [.lit (.bool false)], args := [d1, d2, d3] }
  | _ => none }
def VictimExactWrongFalsely : Prop := victimExactRow.holds Try.pinned (OpenSpec.ofChange victimExactWrong)

/-- 'bilgelaw21.VictimMinimal': WHATEVER THE INPUT: true; the input reads as it did. -/
def victimMinimalSpec : ChangeSpec := { name := "victimMinimal", fn := fun _ => fun
  | [d1, d2, d3] => { results := [.lit (.bool true)], args := [d1, d2, d3] }
  | _ => none }
def victimMinimalRow : OpenClaim := { program := "ytabbkembpghfdaa", sum := "42189e2738cda6b8b38eb59cdea6b1e2602ec00958e125d9d38054eac6e3db37", func := "bilge/bilgelaw21.VictimMinimal", spec := "victimMinimal", inPlace := ["internal/bytealg.abigen_runtime_cmpstring"], unfollowed := true, recurses := true, apart := false }
def VictimMinimalSaid : Prop := victimMinimalRow.holds Try.pinned (OpenSpec.ofChange victimMinimalSpec)

/-- ITS FALSE NEIGHBOUR: 'it returns false'. Refute it at one input. -/
def victimMinimalWrong : ChangeSpec := { name := "victimMinimal", fn := fun _ => fun
  | [d1, d2, d3] => { results := [.lit (.bool false)], args := [d1, d2, d3] }
  | _ => none }
def VictimMinimalWrongFalsely : Prop := victimMinimalRow.holds Try.pinned (OpenSpec.ofChange victimMinimalWrong)

/-- 'bilgelaw21.VictimWay': WHATEVER THE INPUT: true; the input reads as it did. -/
def victimWaySpec : ChangeSpec := { name := "victimWay", fn := fun _ => fun
  | [d1, d2, d3] => { results := [.lit (.bool true)], args := [d1, d2, d3] }
  | _ => none }
def victimWayRow : OpenClaim := { program := "ytabbkembpghfdaa", sum := "42189e2738cda6b8b38eb59cdea6b1e2602ec00958e125d9d38054eac6e3db37", func := "bilge/bilgelaw21.VictimWay", spec := "victimWay", inPlace := ["internal/bytealg.abigen_runtime_cmpstring"], unfollowed := true, recurses := true, apart := false }
def VictimWaySaid : Prop := victimWayRow.holds Try.pinned (OpenSpec.ofChange victimWaySpec)

/-- ITS FALSE NEIGHBOUR: 'it returns false'. Refute it at one input. -/
def victimWayWrong : ChangeSpec := { name := "victimWay", fn := fun _ => fun
  | [d1, d2, d3] => { results := [.lit (.bool false)], args := [d1, d2, d3] }
  | _ => none }
def VictimWayWrongFalsely : Prop := victimWayRow.holds Try.pinned (OpenSpec.ofChange victimWayWrong)

/-- 'bilgelaw21.VictimNobody': WHATEVER THE INPUT: true; the input reads as it did. -/
def victimNobodySpec : ChangeSpec := { name := "victimNobody", fn := fun _ => fun
  | [d1, d2, d3] => { results := [.lit (.bool true)], args := [d1, d2, d3] }
  | _ => none }
def victimNobodyRow : OpenClaim := { program := "ytabbkembpghfdaa", sum := "42189e2738cda6b8b38eb59cdea6b1e2602ec00958e125d9d38054eac6e3db37", func := "bilge/bilgelaw21.VictimNobody", spec := "victimNobody", inPlace := ["internal/bytealg.abigen_runtime_cmpstring"], unfollowed := true, recurses := true, apart := false }
def VictimNobodySaid : Prop := victimNobodyRow.holds Try.pinned (OpenSpec.ofChange victimNobodySpec)

/-- ITS FALSE NEIGHBOUR: 'it returns false'. Refute it at one input. -/
def victimNobodyWrong : ChangeSpec := { name := "victimNobody", fn := fun _ => fun
  | [d1, d2, d3] => { results := [.lit (.bool false)], args := [d1, d2, d3] }
  | _ => none }
def VictimNobodyWrongFalsely : Prop := victimNobodyRow.holds Try.pinned (OpenSpec.ofChange victimNobodyWrong)

/-- 'bilgelaw21.VictimTurned': WHATEVER THE INPUT: true; the input reads as it did. -/
def victimTurnedSpec : ChangeSpec := { name := "victimTurned", fn := fun _ => fun
  | [d1, d2, d3, d4] => { results := [.lit (.bool true)], args := [d1, d2, d3, d4] }
  | _ => none }
def victimTurnedRow : OpenClaim := { program := "ytabbkembpghfdaa", sum := "42189e2738cda6b8b38eb59cdea6b1e2602ec00958e125d9d38054eac6e3db37", func := "bilge/bilgelaw21.VictimTurned", spec := "victimTurned", inPlace := ["internal/bytealg.abigen_runtime_cmpstring"], unfollowed := true, recurses := true, apart := false }
def VictimTurnedSaid : Prop := victimTurnedRow.holds Try.pinned (OpenSpec.ofChange victimTurnedSpec)

/-- ITS FALSE NEIGHBOUR: 'it returns false'. Refute it at one input. -/
def victimTurnedWrong : ChangeSpec := { name := "victimTurned", fn := fun _ => fun
  | [d1, d2, d3, d4] => { results := [.lit (.bool false)], args := [d1, d2, d3, d4] }
  | _ => none }
def VictimTurnedWrongFalsely : Prop := victimTurnedRow.holds Try.pinned (OpenSpec.ofChange victimTurnedWrong)

/-- 'bilgelaw21.VictimSpares': WHATEVER THE INPUT: true; the input reads as it did. -/
def victimSparesSpec : ChangeSpec := { name := "victimSpares", fn := fun _ => fun
  | [d1, d2, d3] => { results := [.lit (.bool true)], args := [d1, d2, d3] }
  | _ => none }
def victimSparesRow : OpenClaim := { program := "ytabbkembpghfdaa", sum := "42189e2738cda6b8b38eb59cdea6b1e2602ec00958e125d9d38054eac6e3db37", func := "bilge/bilgelaw21.VictimSpares", spec := "victimSpares", inPlace := ["internal/bytealg.abigen_runtime_cmpstring"], unfollowed := true, recurses := true, apart := false }
def VictimSparesSaid : Prop := victimSparesRow.holds Try.pinned (OpenSpec.ofChange victimSparesSpec)

/-- ITS FALSE NEIGHBOUR: 'it returns false'. Refute it at one input. -/
def victimSparesWrong : ChangeSpec := { name := "victimSpares", fn := fun _ => fun
  | [d1, d2, d3] => { results := [.lit (.bool false)], args := [d1, d2, d3] }
  | _ => none }
def VictimSparesWrongFalsely : Prop := victimSparesRow.holds Try.pinned (OpenSpec.ofChange victimSparesWrong)

/-- 'bilgelaw21.VictimLess': WHATEVER THE INPUT: true; the input reads as it did. -/
def victimLessSpec : ChangeSpec := { name := "victimLess", fn := fun _ => fun
  | [d1, d2, d3, d4] => { results := [.lit (.bool true)], args := [d1, d2, d3, d4] }
  | _ => none }
def victimLessRow : OpenClaim := { program := "ytabbkembpghfdaa", sum := "42189e2738cda6b8b38eb59cdea6b1e2602ec00958e125d9d38054eac6e3db37", func := "bilge/bilgelaw21.VictimLess", spec := "victimLess", inPlace := ["internal/bytealg.abigen_runtime_cmpstring"], unfollowed := true, recurses := true, apart := false }
def VictimLessSaid : Prop := victimLessRow.holds Try.pinned (OpenSpec.ofChange victimLessSpec)

/-- ITS FALSE NEIGHBOUR: 'it returns false'. Refute it at one input. -/
def victimLessWrong : ChangeSpec := { name := "victimLess", fn := fun _ => fun
  | [d1, d2, d3, d4] => { results := [.lit (.bool false)], args := [d1, d2, d3, d4] }
  | _ => none }
def VictimLessWrongFalsely : Prop := victimLessRow.holds Try.pinned (OpenSpec.ofChange victimLessWrong)

/-- 'bilgelaw21.VictimKeeps': WHATEVER THE INPUT: true; the input reads as it did. -/
def victimKeepsSpec : ChangeSpec := { name := "victimKeeps", fn := fun _ => fun
  | [d1, d2, d3] => { results := [.lit (.bool true)], args := [d1, d2, d3] }
  | _ => none }
def victimKeepsRow : OpenClaim := { program := "ytabbkembpghfdaa", sum := "42189e2738cda6b8b38eb59cdea6b1e2602ec00958e125d9d38054eac6e3db37", func := "bilge/bilgelaw21.VictimKeeps", spec := "victimKeeps", inPlace := ["internal/bytealg.abigen_runtime_cmpstring"], unfollowed := true, recurses := true, apart := false }
def VictimKeepsSaid : Prop := victimKeepsRow.holds Try.pinned (OpenSpec.ofChange victimKeepsSpec)

/-- ITS FALSE NEIGHBOUR: 'it returns false'. Refute it at one input. -/
def victimKeepsWrong : ChangeSpec := { name := "victimKeeps", fn := fun _ => fun
  | [d1, d2, d3] => { results := [.lit (.bool false)], args := [d1, d2, d3] }
  | _ => none }
def VictimKeepsWrongFalsely : Prop := victimKeepsRow.holds Try.pinned (OpenSpec.ofChange victimKeepsWrong)

/- THE SECOND FORM. 'bulk': how many values and letters a reading holds, each counted each time it is reached (what is shared counts as often as it is met; a slice's spare places count too). A statement '..UptoSaid' is the law's where the arguments, and the package variables that the reading takes, are together of bulk at most 1048576: NARROWER than '..Said'. Prove '..Said' where nothing that the law and all that it calls make is longer than what came in: it says more and counts as full. Else prove '..UptoSaid'. A law counts once. -/
mutual
def uptoBulk {H : Type} : DataW H → Nat
  | .lit (.string bytes) => bytes.length + 1
  | .lit _ => 1
  | .nil => 1
  | .ptr d => uptoBulk d + 1
  | .slice elems spare => uptoBulkAll elems + uptoBulkAll spare + 1
  | .agg parts => uptoBulkAll parts + 1
  | .iface _ d => uptoBulk d + 1
  | .map entries => uptoBulkEntries entries + 1
  | .held _ => 1
def uptoBulkAll {H : Type} : List (DataW H) → Nat
  | [] => 0
  | d :: r => uptoBulk d + uptoBulkAll r
def uptoBulkEntries {H : Type} : List (Lit × DataW H) → Nat
  | [] => 0
  | x :: r => uptoBulkEntry x + uptoBulkEntries r
def uptoBulkEntry {H : Type} : Lit × DataW H → Nat
  | (.string bytes, d) => bytes.length + uptoBulk d + 1
  | (_, d) => uptoBulk d + 1
 end
def uptoSmall : (H : Type) → List (DataW H) → Bool := fun _ ds => decide (uptoBulkAll ds ≤ 1048576)
def OpenSpec.upto (s : _root_.Go.ChangeSpec) : _root_.Go.OpenSpec := { _root_.Go.OpenSpec.ofChange s with cond := some uptoSmall }

/-- 'bilgelaw21.VictimChooses', WHERE WHAT IT READS IS OF BULK AT MOST 1048576: true; the input reads as it did. -/
def victimChoosesUptoRow : OpenClaim := { program := "ytabbkembpghfdaa", sum := "42189e2738cda6b8b38eb59cdea6b1e2602ec00958e125d9d38054eac6e3db37", func := "bilge/bilgelaw21.VictimChooses", spec := "victimChooses", inPlace := ["internal/bytealg.abigen_runtime_cmpstring"], unfollowed := true, recurses := true, apart := false, narrowed := true }
def VictimChoosesUptoSaid : Prop := victimChoosesUptoRow.holds Try.pinned (OpenSpec.upto victimChoosesSpec)

/-- 'bilgelaw21.VictimExact', WHERE WHAT IT READS IS OF BULK AT MOST 1048576: true; the input reads as it did. -/
def victimExactUptoRow : OpenClaim := { program := "ytabbkembpghfdaa", sum := "42189e2738cda6b8b38eb59cdea6b1e2602ec00958e125d9d38054eac6e3db37", func := "bilge/bilgelaw21.VictimExact", spec := "victimExact", inPlace := ["internal/bytealg.abigen_runtime_cmpstring"], unfollowed := true, recurses := true, apart := false, narrowed := true }
def VictimExactUptoSaid : Prop := victimExactUptoRow.holds Try.pinned (OpenSpec.upto victimExactSpec)

/-- 'bilgelaw21.VictimMinimal', WHERE WHAT IT READS IS OF BULK AT MOST 1048576: true; the input reads as it did. -/
def victimMinimalUptoRow : OpenClaim := { program := "ytabbkembpghfdaa", sum := "42189e2738cda6b8b38eb59cdea6b1e2602ec00958e125d9d38054eac6e3db37", func := "bilge/bilgelaw21.VictimMinimal", spec := "victimMinimal", inPlace := ["internal/bytealg.abigen_runtime_cmpstring"], unfollowed := true, recurses := true, apart := false, narrowed := true }
def VictimMinimalUptoSaid : Prop := victimMinimalUptoRow.holds Try.pinned (OpenSpec.upto victimMinimalSpec)

/-- 'bilgelaw21.VictimWay', WHERE WHAT IT READS IS OF BULK AT MOST 1048576: true; the input reads as it did. -/
def victimWayUptoRow : OpenClaim := { program := "ytabbkembpghfdaa", sum := "42189e2738cda6b8b38eb59cdea6b1e2602ec00958e125d9d38054eac6e3db37", func := "bilge/bilgelaw21.VictimWay", spec := "victimWay", inPlace := ["internal/bytealg.abigen_runtime_cmpstring"], unfollowed := true, recurses := true, apart := false, narrowed := true }
def VictimWayUptoSaid : Prop := victimWayUptoRow.holds Try.pinned (OpenSpec.upto victimWaySpec)

/-- 'bilgelaw21.VictimNobody', WHERE WHAT IT READS IS OF BULK AT MOST 1048576: true; the input reads as it did. -/
def victimNobodyUptoRow : OpenClaim := { program := "ytabbkembpghfdaa", sum := "42189e2738cda6b8b38eb59cdea6b1e2602ec00958e125d9d38054eac6e3db37", func := "bilge/bilgelaw21.VictimNobody", spec := "victimNobody", inPlace := ["internal/bytealg.abigen_runtime_cmpstring"], unfollowed := true, recurses := true, apart := false, narrowed := true }
def VictimNobodyUptoSaid : Prop := victimNobodyUptoRow.holds Try.pinned (OpenSpec.upto victimNobodySpec)

/-- 'bilgelaw21.VictimTurned', WHERE WHAT IT READS IS OF BULK AT MOST 1048576: true; the input reads as it did. -/
def victimTurnedUptoRow : OpenClaim := { program := "ytabbkembpghfdaa", sum := "42189e2738cda6b8b38eb59cdea6b1e2602ec00958e125d9d38054eac6e3db37", func := "bilge/bilgelaw21.VictimTurned", spec := "victimTurned", inPlace := ["internal/bytealg.abigen_runtime_cmpstring"], unfollowed := true, recurses := true, apart := false, narrowed := true }
def VictimTurnedUptoSaid : Prop := victimTurnedUptoRow.holds Try.pinned (OpenSpec.upto victimTurnedSpec)

/-- 'bilgelaw21.VictimSpares', WHERE WHAT IT READS IS OF BULK AT MOST 1048576: true; the input reads as it did. -/
def victimSparesUptoRow : OpenClaim := { program := "ytabbkembpghfdaa", sum := "42189e2738cda6b8b38eb59cdea6b1e2602ec00958e125d9d38054eac6e3db37", func := "bilge/bilgelaw21.VictimSpares", spec := "victimSpares", inPlace := ["internal/bytealg.abigen_runtime_cmpstring"], unfollowed := true, recurses := true, apart := false, narrowed := true }
def VictimSparesUptoSaid : Prop := victimSparesUptoRow.holds Try.pinned (OpenSpec.upto victimSparesSpec)

/-- 'bilgelaw21.VictimLess', WHERE WHAT IT READS IS OF BULK AT MOST 1048576: true; the input reads as it did. -/
def victimLessUptoRow : OpenClaim := { program := "ytabbkembpghfdaa", sum := "42189e2738cda6b8b38eb59cdea6b1e2602ec00958e125d9d38054eac6e3db37", func := "bilge/bilgelaw21.VictimLess", spec := "victimLess", inPlace := ["internal/bytealg.abigen_runtime_cmpstring"], unfollowed := true, recurses := true, apart := false, narrowed := true }
def VictimLessUptoSaid : Prop := victimLessUptoRow.holds Try.pinned (OpenSpec.upto victimLessSpec)

/-- 'bilgelaw21.VictimKeeps', WHERE WHAT IT READS IS OF BULK AT MOST 1048576: true; the input reads as it did. -/
def victimKeepsUptoRow : OpenClaim := { program := "ytabbkembpghfdaa", sum := "42189e2738cda6b8b38eb59cdea6b1e2602ec00958e125d9d38054eac6e3db37", func := "bilge/bilgelaw21.VictimKeeps", spec := "victimKeeps", inPlace := ["internal/bytealg.abigen_runtime_cmpstring"], unfollowed := true, recurses := true, apart := false, narrowed := true }
def VictimKeepsUptoSaid : Prop := victimKeepsUptoRow.holds Try.pinned (OpenSpec.upto victimKeepsSpec)

end Rows
end Go.Proofs.Ytabbkembpghfdaa
