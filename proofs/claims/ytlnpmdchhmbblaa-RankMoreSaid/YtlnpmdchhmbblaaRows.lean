/-
  No cell of these rows narrows 'for every input' (looked for: loops, veiled, ifaces, maps, wideKeys, modest, calm, conditions, laid).
  DERIVED. THE GIVEN ROWS OF THIS SEAT. 8 by the template 'for every input the law returns true; each argument reads behind the call as it read before'; 0 by the template 'total and deterministic' (their statements: YtlnpmdchhmbblaaTotals.lean).
  GIVEN WITH THE SEED: the statements are not yours to turn. If you find one false, say at which input.
  Laid BY PROGRAM, IN A SANDBOX (cutbox-rows.mjs): the forced cells as the released guide's own fill.sh prints them over the translation 5f582157f1bb3a6e… (all of the seat's roots in one cut). By AI agents, Wed Nov 11 2026. No macro, syntax, notation, axiom, sorry.
-/
import Derived.Test.YtlnpmdchhmbblaaChecked
import GoSem.Claim
import GoSem.ClaimJoined
import GoSem.ClaimMapViews
import Derived.JoinedTies
import Derived.KernelRfl
namespace Go.Proofs.Ytlnpmdchhmbblaa
/- THE CELL 'sum', in the pinned program and in every row, IS THE sha256 OF THE DUMP (.gsa) THAT YtlnpmdchhmbblaaProg.lean LOADS. Nothing in Lean hashes anything: it is a label: what it is worth is what the hold of that sum in a sandbox is worth. -/
noncomputable def Try.pinned : Pinned := { name := "ytlnpmdchhmbblaa", sum := "5f582157f1bb3a6e2b1446b3e85569ef3e029d99e985a12ff0851a7281846ddb", checked := Try.checked }
namespace Rows
def none {H : Type} : Left H := { results := [], args := [] }

/-- 'bilgelaw20.RankMore': WHATEVER THE INPUT: true; the input reads as it did. -/
def rankMoreSpec : ChangeSpec := { name := "rankMore", fn := fun _ => fun
  | [d1, d2, d3, d4, d5, d6] => { results := [.lit (.bool true)], args := [d1, d2, d3, d4, d5, d6] }
  | _ => none }
def rankMoreRow : OpenClaim := { program := "ytlnpmdchhmbblaa", sum := "5f582157f1bb3a6e2b1446b3e85569ef3e029d99e985a12ff0851a7281846ddb", func := "bilge/bilgelaw20.RankMore", spec := "rankMore", inPlace := ["internal/bytealg.abigen_runtime_cmpstring"], unfollowed := true, recurses := true, apart := false }
def RankMoreSaid : Prop := rankMoreRow.holds Try.pinned (OpenSpec.ofChange rankMoreSpec)

/-- ITS FALSE NEIGHBOUR: 'it returns false'. Refute it at one input. -/
def rankMoreWrong : ChangeSpec := { name := "rankMore", fn := fun _ => fun
  | [d1, d2, d3, d4, d5, d6] => { results := [.lit (.bool false)], args := [d1, d2, d3, d4, d5, d6] }
  | _ => none }
def RankMoreWrongFalsely : Prop := rankMoreRow.holds Try.pinned (OpenSpec.ofChange rankMoreWrong)

/-- 'bilgelaw20.RankKeys': WHATEVER THE INPUT: true; the input reads as it did. -/
def rankKeysSpec : ChangeSpec := { name := "rankKeys", fn := fun _ => fun
  | [d1, d2, d3, d4] => { results := [.lit (.bool true)], args := [d1, d2, d3, d4] }
  | _ => none }
def rankKeysRow : OpenClaim := { program := "ytlnpmdchhmbblaa", sum := "5f582157f1bb3a6e2b1446b3e85569ef3e029d99e985a12ff0851a7281846ddb", func := "bilge/bilgelaw20.RankKeys", spec := "rankKeys", inPlace := ["internal/bytealg.abigen_runtime_cmpstring"], unfollowed := true, recurses := true, apart := false }
def RankKeysSaid : Prop := rankKeysRow.holds Try.pinned (OpenSpec.ofChange rankKeysSpec)

/-- ITS FALSE NEIGHBOUR: 'it returns false'. Refute it at one input. -/
def rankKeysWrong : ChangeSpec := { name := "rankKeys", fn := fun _ => fun
  | [d1, d2, d3, d4] => { results := [.lit (.bool false)], args := [d1, d2, d3, d4] }
  | _ => none }
def RankKeysWrongFalsely : Prop := rankKeysRow.holds Try.pinned (OpenSpec.ofChange rankKeysWrong)

/-- 'bilgelaw20.RankPairs': WHATEVER THE INPUT: true; the input reads as it did. -/
def rankPairsSpec : ChangeSpec := { name := "rankPairs", fn := fun _ => fun
  | [d1, d2, d3, d4, d5] => { results := [.lit (.bool true)], args := [d1, d2, d3, d4, d5] }
  | _ => none }
def rankPairsRow : OpenClaim := { program := "ytlnpmdchhmbblaa", sum := "5f582157f1bb3a6e2b1446b3e85569ef3e029d99e985a12ff0851a7281846ddb", func := "bilge/bilgelaw20.RankPairs", spec := "rankPairs", inPlace := ["internal/bytealg.abigen_runtime_cmpstring", "math.Float64bits"], unfollowed := true, recurses := true, apart := false }
def RankPairsSaid : Prop := rankPairsRow.holds Try.pinned (OpenSpec.ofChange rankPairsSpec)

/-- ITS FALSE NEIGHBOUR: 'it returns false'. Refute it at one input. -/
def rankPairsWrong : ChangeSpec := { name := "rankPairs", fn := fun _ => fun
  | [d1, d2, d3, d4, d5] => { results := [.lit (.bool false)], args := [d1, d2, d3, d4, d5] }
  | _ => none }
def RankPairsWrongFalsely : Prop := rankPairsRow.holds Try.pinned (OpenSpec.ofChange rankPairsWrong)

/-- 'bilgelaw20.RankOrders': WHATEVER THE INPUT: true; the input reads as it did. -/
def rankOrdersSpec : ChangeSpec := { name := "rankOrders", fn := fun _ => fun
  | [d1, d2, d3] => { results := [.lit (.bool true)], args := [d1, d2, d3] }
  | _ => none }
def rankOrdersRow : OpenClaim := { program := "ytlnpmdchhmbblaa", sum := "5f582157f1bb3a6e2b1446b3e85569ef3e029d99e985a12ff0851a7281846ddb", func := "bilge/bilgelaw20.RankOrders", spec := "rankOrders", inPlace := ["internal/bytealg.abigen_runtime_cmpstring", "math.Float64bits"], unfollowed := true, recurses := true, apart := false }
def RankOrdersSaid : Prop := rankOrdersRow.holds Try.pinned (OpenSpec.ofChange rankOrdersSpec)

/-- ITS FALSE NEIGHBOUR: 'it returns false'. Refute it at one input. -/
def rankOrdersWrong : ChangeSpec := { name := "rankOrders", fn := fun _ => fun
  | [d1, d2, d3] => { results := [.lit (.bool false)], args := [d1, d2, d3] }
  | _ => none }
def RankOrdersWrongFalsely : Prop := rankOrdersRow.holds Try.pinned (OpenSpec.ofChange rankOrdersWrong)

/-- 'bilgelaw20.RankOrder': WHATEVER THE INPUT: true; the input reads as it did. -/
def rankOrderSpec : ChangeSpec := { name := "rankOrder", fn := fun _ => fun
  | [d1, d2, d3, d4, d5] => { results := [.lit (.bool true)], args := [d1, d2, d3, d4, d5] }
  | _ => none }
def rankOrderRow : OpenClaim := { program := "ytlnpmdchhmbblaa", sum := "5f582157f1bb3a6e2b1446b3e85569ef3e029d99e985a12ff0851a7281846ddb", func := "bilge/bilgelaw20.RankOrder", spec := "rankOrder", inPlace := ["internal/bytealg.abigen_runtime_cmpstring", "math.Float64bits"], unfollowed := true, recurses := true, apart := false }
def RankOrderSaid : Prop := rankOrderRow.holds Try.pinned (OpenSpec.ofChange rankOrderSpec)

/-- ITS FALSE NEIGHBOUR: 'it returns false'. Refute it at one input. -/
def rankOrderWrong : ChangeSpec := { name := "rankOrder", fn := fun _ => fun
  | [d1, d2, d3, d4, d5] => { results := [.lit (.bool false)], args := [d1, d2, d3, d4, d5] }
  | _ => none }
def RankOrderWrongFalsely : Prop := rankOrderRow.holds Try.pinned (OpenSpec.ofChange rankOrderWrong)

/-- 'bilgelaw20.RankFirst': WHATEVER THE INPUT: true; the input reads as it did. -/
def rankFirstSpec : ChangeSpec := { name := "rankFirst", fn := fun _ => fun
  | [d1, d2, d3] => { results := [.lit (.bool true)], args := [d1, d2, d3] }
  | _ => none }
def rankFirstRow : OpenClaim := { program := "ytlnpmdchhmbblaa", sum := "5f582157f1bb3a6e2b1446b3e85569ef3e029d99e985a12ff0851a7281846ddb", func := "bilge/bilgelaw20.RankFirst", spec := "rankFirst", inPlace := ["internal/bytealg.abigen_runtime_cmpstring", "math.Float64bits"], unfollowed := true, recurses := true, apart := false }
def RankFirstSaid : Prop := rankFirstRow.holds Try.pinned (OpenSpec.ofChange rankFirstSpec)

/-- ITS FALSE NEIGHBOUR: 'it returns false'. Refute it at one input. -/
def rankFirstWrong : ChangeSpec := { name := "rankFirst", fn := fun _ => fun
  | [d1, d2, d3] => { results := [.lit (.bool false)], args := [d1, d2, d3] }
  | _ => none }
def RankFirstWrongFalsely : Prop := rankFirstRow.holds Try.pinned (OpenSpec.ofChange rankFirstWrong)

/-- 'bilgelaw20.RankTable': WHATEVER THE INPUT: true; the input reads as it did. -/
def rankTableSpec : ChangeSpec := { name := "rankTable", fn := fun _ => fun
  | [d1, d2, d3] => { results := [.lit (.bool true)], args := [d1, d2, d3] }
  | _ => none }
def rankTableRow : OpenClaim := { program := "ytlnpmdchhmbblaa", sum := "5f582157f1bb3a6e2b1446b3e85569ef3e029d99e985a12ff0851a7281846ddb", func := "bilge/bilgelaw20.RankTable", spec := "rankTable", inPlace := ["internal/bytealg.abigen_runtime_cmpstring", "math.Float64bits"], unfollowed := true, recurses := true, apart := false }
def RankTableSaid : Prop := rankTableRow.holds Try.pinned (OpenSpec.ofChange rankTableSpec)

/-- ITS FALSE NEIGHBOUR: 'it returns false'. Refute it at one input. -/
def rankTableWrong : ChangeSpec := { name := "rankTable", fn := fun _ => fun
  | [d1, d2, d3] => { results := [.lit (.bool false)], args := [d1, d2, d3] }
  | _ => none }
def RankTableWrongFalsely : Prop := rankTableRow.holds Try.pinned (OpenSpec.ofChange rankTableWrong)

/-- 'bilgelaw20.RankKeeps': WHATEVER THE INPUT: true; the input reads as it did. -/
def rankKeepsSpec : ChangeSpec := { name := "rankKeeps", fn := fun _ => fun
  | [d1, d2, d3] => { results := [.lit (.bool true)], args := [d1, d2, d3] }
  | _ => none }
def rankKeepsRow : OpenClaim := { program := "ytlnpmdchhmbblaa", sum := "5f582157f1bb3a6e2b1446b3e85569ef3e029d99e985a12ff0851a7281846ddb", func := "bilge/bilgelaw20.RankKeeps", spec := "rankKeeps", inPlace := ["internal/bytealg.abigen_runtime_cmpstring", "math.Float64bits"], unfollowed := true, recurses := true, apart := false }
def RankKeepsSaid : Prop := rankKeepsRow.holds Try.pinned (OpenSpec.ofChange rankKeepsSpec)

/-- ITS FALSE NEIGHBOUR: 'it returns false'. Refute it at one input. -/
def rankKeepsWrong : ChangeSpec := { name := "rankKeeps", fn := fun _ => fun
  | [d1, d2, d3] => { results := [.lit (.bool false)], args := [d1, d2, d3] }
  | _ => none }
def RankKeepsWrongFalsely : Prop := rankKeepsRow.holds Try.pinned (OpenSpec.ofChange rankKeepsWrong)

/- THE SECOND FORM. 'bulk': how many values and letters a reading holds, each counted each time it is reached (what is shared counts as often as it is met; a slice's spare places count too). A statement '..UptoSaid' is the law's where the arguments, and the package variables that the reading takes, are together of bulk at most 1048576: NARROWER than '..Said'. Prove '..Said' where nothing that the law and all that it calls make is longer than what came in: it says more and counts as full. Else prove '..UptoSaid'. A law counts once. -/
mutual
def uptoBulk {H : Type} : DataW H → Nat
  | .lit (.string bytes) => bytes.length + 1
  | .lit _ => 1
  | .nil => 1
  | .ptr d => uptoBulk d + 1
  | .slice elems spare => uptoBulkAll elems + uptoBulkAll spare + 1
  | .agg parts => uptoBulkAll parts + 1
  | .iface _ d => uptoBulk d + 1
  | .map entries => uptoBulkEntries entries + 1
  | .held _ => 1
def uptoBulkAll {H : Type} : List (DataW H) → Nat
  | [] => 0
  | d :: r => uptoBulk d + uptoBulkAll r
def uptoBulkEntries {H : Type} : List (Lit × DataW H) → Nat
  | [] => 0
  | x :: r => uptoBulkEntry x + uptoBulkEntries r
def uptoBulkEntry {H : Type} : Lit × DataW H → Nat
  | (.string bytes, d) => bytes.length + uptoBulk d + 1
  | (_, d) => uptoBulk d + 1
 end
def uptoSmall : (H : Type) → List (DataW H) → Bool := fun _ ds => decide (uptoBulkAll ds ≤ 1048576)
def OpenSpec.upto (s : _root_.Go.ChangeSpec) : _root_.Go.OpenSpec := { _root_.Go.OpenSpec.ofChange s with cond := some uptoSmall }

/-- 'bilgelaw20.RankMore', WHERE WHAT IT READS IS OF BULK AT MOST 1048576: true; the input reads as it did. -/
def rankMoreUptoRow : OpenClaim := { program := "ytlnpmdchhmbblaa", sum := "5f582157f1bb3a6e2b1446b3e85569ef3e029d99e985a12ff0851a7281846ddb", func := "bilge/bilgelaw20.RankMore", spec := "rankMore", inPlace := ["internal/bytealg.abigen_runtime_cmpstring"], unfollowed := true, recurses := true, apart := false, narrowed := true }
def RankMoreUptoSaid : Prop := rankMoreUptoRow.holds Try.pinned (OpenSpec.upto rankMoreSpec)

/-- 'bilgelaw20.RankKeys', WHERE WHAT IT READS IS OF BULK AT MOST 1048576: true; the input reads as it did. -/
def rankKeysUptoRow : OpenClaim := { program := "ytlnpmdchhmbblaa", sum := "5f582157f1bb3a6e2b1446b3e85569ef3e029d99e985a12ff0851a7281846ddb", func := "bilge/bilgelaw20.RankKeys", spec := "rankKeys", inPlace := ["internal/bytealg.abigen_runtime_cmpstring"], unfollowed := true, recurses := true, apart := false, narrowed := true }
def RankKeysUptoSaid : Prop := rankKeysUptoRow.holds Try.pinned (OpenSpec.upto rankKeysSpec)

/-- 'bilgelaw20.RankPairs', WHERE WHAT IT READS IS OF BULK AT MOST 1048576: true; the input reads as it did. -/
def rankPairsUptoRow : OpenClaim := { program := "ytlnpmdchhmbblaa", sum := "5f582157f1bb3a6e2b1446b3e85569ef3e029d99e985a12ff0851a7281846ddb", func := "bilge/bilgelaw20.RankPairs", spec := "rankPairs", inPlace := ["internal/bytealg.abigen_runtime_cmpstring", "math.Float64bits"], unfollowed := true, recurses := true, apart := false, narrowed := true }
def RankPairsUptoSaid : Prop := rankPairsUptoRow.holds Try.pinned (OpenSpec.upto rankPairsSpec)

/-- 'bilgelaw20.RankOrders', WHERE WHAT IT READS IS OF BULK AT MOST 1048576: true; the input reads as it did. -/
def rankOrdersUptoRow : OpenClaim := { program := "ytlnpmdchhmbblaa", sum := "5f582157f1bb3a6e2b1446b3e85569ef3e029d99e985a12ff0851a7281846ddb", func := "bilge/bilgelaw20.RankOrders", spec := "rankOrders", inPlace := ["internal/bytealg.abigen_runtime_cmpstring", "math.Float64bits"], unfollowed := true, recurses := true, apart := false, narrowed := true }
def RankOrdersUptoSaid : Prop := rankOrdersUptoRow.holds Try.pinned (OpenSpec.upto rankOrdersSpec)

/-- 'bilgelaw20.RankOrder', WHERE WHAT IT READS IS OF BULK AT MOST 1048576: true; the input reads as it did. -/
def rankOrderUptoRow : OpenClaim := { program := "ytlnpmdchhmbblaa", sum := "5f582157f1bb3a6e2b1446b3e85569ef3e029d99e985a12ff0851a7281846ddb", func := "bilge/bilgelaw20.RankOrder", spec := "rankOrder", inPlace := ["internal/bytealg.abigen_runtime_cmpstring", "math.Float64bits"], unfollowed := true, recurses := true, apart := false, narrowed := true }
def RankOrderUptoSaid : Prop := rankOrderUptoRow.holds Try.pinned (OpenSpec.upto rankOrderSpec)

/-- 'bilgelaw20.RankFirst', WHERE WHAT IT READS IS OF BULK AT MOST 1048576: true; the input reads as it did. -/
def rankFirstUptoRow : OpenClaim := { program := "ytlnpmdchhmbblaa", sum := "5f582157f1bb3a6e2b1446b3e85569ef3e029d99e985a12ff0851a7281846ddb", func := "bilge/bilgelaw20.RankFirst", spec := "rankFirst", inPlace := ["internal/bytealg.abigen_runtime_cmpstring", "math.Float64bits"], unfollowed := true, recurses := true, apart := false, narrowed := true }
def RankFirstUptoSaid : Prop := rankFirstUptoRow.holds Try.pinned (OpenSpec.upto rankFirstSpec)

/-- 'bilgelaw20.RankTable', WHERE WHAT IT READS IS OF BULK AT MOST 1048576: true; the input reads as it did. -/
def rankTableUptoRow : OpenClaim := { program := "ytlnpmdchhmbblaa", sum := "5f582157f1bb3a6e2b1446b3e85569ef3e029d99e985a12ff0851a7281846ddb", func := "bilge/bilgelaw20.RankTable", spec := "rankTable", inPlace := ["internal/bytealg.abigen_runtime_cmpstring", "math.Float64bits"], unfollowed := true, recurses := true, apart := false, narrowed := true }
def RankTableUptoSaid : Prop := rankTableUptoRow.holds Try.pinned (OpenSpec.upto rankTableSpec)

/-- 'bilgelaw20.RankKeeps', WHERE WHAT IT READS IS OF BULK AT MOST 1048576: true; the input reads as it did. -/
def rankKeepsUptoRow : OpenClaim := { program := "ytlnpmdchhmbblaa", sum := "5f582157f1bb3a6e2b1446b3e85569ef3e029d99e985a12ff0851a7281846ddb", func := "bilge/bilgelaw20.RankKeeps", spec := "rankKeeps", inPlace := ["internal/bytealg.abigen_runtime_cmpstring", "math.Float64bits"], unfollowed := true, recurses := true, apart := false, narrowed := true }
def RankKeepsUptoSaid : Prop := rankKeepsUptoRow.holds Try.pinned (OpenSpec.upto rankKeepsSpec)

end Rows
end Go.Proofs.Ytlnpmdchhmbblaa
