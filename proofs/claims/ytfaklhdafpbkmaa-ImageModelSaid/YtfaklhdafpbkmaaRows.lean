/-
  No cell of these rows narrows 'for every input' (looked for: loops, veiled, ifaces, maps, wideKeys, modest, calm, conditions, laid).
  DERIVED. THE GIVEN ROWS OF THIS SEAT. 14 by the template 'for every input the law returns true; each argument reads behind the call as it read before'; 0 by the template 'total and deterministic' (their statements: YtfaklhdafpbkmaaTotals.lean).
  GIVEN WITH THE SEED: the statements are not yours to turn. If you find one false, say at which input.
  Laid BY PROGRAM, IN A SANDBOX (cutbox-rows.mjs): the forced cells as the released guide's own fill.sh prints them over the translation 9467857c9238f874… (all of the seat's roots in one cut). By AI agents, Wed Nov 11 2026. No macro, syntax, notation, axiom, sorry.
-/
import Derived.Test.YtfaklhdafpbkmaaChecked
import GoSem.Claim
import GoSem.ClaimJoined
import GoSem.ClaimMapViews
import Derived.JoinedTies
import Derived.KernelRfl
namespace Go.Proofs.Ytfaklhdafpbkmaa
/- THE CELL 'sum', in the pinned program and in every row, IS THE sha256 OF THE DUMP (.gsa) THAT YtfaklhdafpbkmaaProg.lean LOADS. Nothing in Lean hashes anything: it is a label: what it is worth is what the hold of that sum in a sandbox is worth. -/
noncomputable def Try.pinned : Pinned := { name := "ytfaklhdafpbkmaa", sum := "9467857c9238f87401bc8e7585197e55c56fb17ad21c9c091b04abb974287830", checked := Try.checked }
namespace Rows
def none {H : Type} : Left H := { results := [], args := [] }

/-- 'bilgelaw22.SweepDead': WHATEVER THE INPUT: true; the input reads as it did. -/
def sweepDeadSpec : ChangeSpec := { name := "sweepDead", fn := fun _ => fun
  | [d1, d2, d3] => { results := [.lit (.bool true)], args := [d1, d2, d3] }
  | _ => none }
def sweepDeadRow : OpenClaim := { program := "ytfaklhdafpbkmaa", sum := "9467857c9238f87401bc8e7585197e55c56fb17ad21c9c091b04abb974287830", func := "bilge/bilgelaw22.SweepDead", spec := "sweepDead", inPlace := ["internal/bytealg.abigen_runtime_cmpstring"], unfollowed := true, recurses := true, apart := false }
def SweepDeadSaid : Prop := sweepDeadRow.holds Try.pinned (OpenSpec.ofChange sweepDeadSpec)

/-- ITS FALSE NEIGHBOUR: 'it returns false'. Refute it at one input. -/
def sweepDeadWrong : ChangeSpec := { name := "sweepDead", fn := fun _ => fun
  | [d1, d2, d3] => { results := [.lit (.bool false)], args := [d1, d2, d3] }
  | _ => none }
def SweepDeadWrongFalsely : Prop := sweepDeadRow.holds Try.pinned (OpenSpec.ofChange sweepDeadWrong)

/-- 'bilgelaw22.SweepParts': WHATEVER THE INPUT: true; the input reads as it did. -/
def sweepPartsSpec : ChangeSpec := { name := "sweepParts", fn := fun _ => fun
  | [d1, d2] => { results := [.lit (.bool true)], args := [d1, d2] }
  | _ => none }
def sweepPartsRow : OpenClaim := { program := "ytfaklhdafpbkmaa", sum := "9467857c9238f87401bc8e7585197e55c56fb17ad21c9c091b04abb974287830", func := "bilge/bilgelaw22.SweepParts", spec := "sweepParts", inPlace := ["internal/bytealg.abigen_runtime_cmpstring"], unfollowed := true, recurses := true, apart := false }
def SweepPartsSaid : Prop := sweepPartsRow.holds Try.pinned (OpenSpec.ofChange sweepPartsSpec)

/-- ITS FALSE NEIGHBOUR: 'it returns false'. Refute it at one input. -/
def sweepPartsWrong : ChangeSpec := { name := "sweepParts", fn := fun _ => fun
  | [d1, d2] => { results := [.lit (.bool false)], args := [d1, d2] }
  | _ => none }
def SweepPartsWrongFalsely : Prop := sweepPartsRow.holds Try.pinned (OpenSpec.ofChange sweepPartsWrong)

/-- 'bilgelaw22.SweepExtra': WHATEVER THE INPUT: true; the input reads as it did. -/
def sweepExtraSpec : ChangeSpec := { name := "sweepExtra", fn := fun _ => fun
  | [d1, d2, d3] => { results := [.lit (.bool true)], args := [d1, d2, d3] }
  | _ => none }
def sweepExtraRow : OpenClaim := { program := "ytfaklhdafpbkmaa", sum := "9467857c9238f87401bc8e7585197e55c56fb17ad21c9c091b04abb974287830", func := "bilge/bilgelaw22.SweepExtra", spec := "sweepExtra", inPlace := ["internal/bytealg.abigen_runtime_cmpstring"], unfollowed := true, recurses := true, apart := false }
def SweepExtraSaid : Prop := sweepExtraRow.holds Try.pinned (OpenSpec.ofChange sweepExtraSpec)

/-- ITS FALSE NEIGHBOUR: 'it returns false'. Refute it at one input. -/
def sweepExtraWrong : ChangeSpec := { name := "sweepExtra", fn := fun _ => fun
  | [d1, d2, d3] => { results := [.lit (.bool false)], args := [d1, d2, d3] }
  | _ => none }
def SweepExtraWrongFalsely : Prop := sweepExtraRow.holds Try.pinned (OpenSpec.ofChange sweepExtraWrong)

/-- 'bilgelaw22.SweepCollects': WHATEVER THE INPUT: true; the input reads as it did. -/
def sweepCollectsSpec : ChangeSpec := { name := "sweepCollects", fn := fun _ => fun
  | [d1, d2, d3, d4] => { results := [.lit (.bool true)], args := [d1, d2, d3, d4] }
  | _ => none }
def sweepCollectsRow : OpenClaim := { program := "ytfaklhdafpbkmaa", sum := "9467857c9238f87401bc8e7585197e55c56fb17ad21c9c091b04abb974287830", func := "bilge/bilgelaw22.SweepCollects", spec := "sweepCollects", inPlace := ["internal/bytealg.abigen_runtime_cmpstring"], unfollowed := true, recurses := true, apart := false }
def SweepCollectsSaid : Prop := sweepCollectsRow.holds Try.pinned (OpenSpec.ofChange sweepCollectsSpec)

/-- ITS FALSE NEIGHBOUR: 'it returns false'. Refute it at one input. -/
def sweepCollectsWrong : ChangeSpec := { name := "sweepCollects", fn := fun _ => fun
  | [d1, d2, d3, d4] => { results := [.lit (.bool false)], args := [d1, d2, d3, d4] }
  | _ => none }
def SweepCollectsWrongFalsely : Prop := sweepCollectsRow.holds Try.pinned (OpenSpec.ofChange sweepCollectsWrong)

/-- 'bilgelaw22.SweepLeast': WHATEVER THE INPUT: true; the input reads as it did. -/
def sweepLeastSpec : ChangeSpec := { name := "sweepLeast", fn := fun _ => fun
  | [d1, d2, d3] => { results := [.lit (.bool true)], args := [d1, d2, d3] }
  | _ => none }
def sweepLeastRow : OpenClaim := { program := "ytfaklhdafpbkmaa", sum := "9467857c9238f87401bc8e7585197e55c56fb17ad21c9c091b04abb974287830", func := "bilge/bilgelaw22.SweepLeast", spec := "sweepLeast", inPlace := ["internal/bytealg.abigen_runtime_cmpstring"], unfollowed := true, recurses := true, apart := false }
def SweepLeastSaid : Prop := sweepLeastRow.holds Try.pinned (OpenSpec.ofChange sweepLeastSpec)

/-- ITS FALSE NEIGHBOUR: 'it returns false'. Refute it at one input. -/
def sweepLeastWrong : ChangeSpec := { name := "sweepLeast", fn := fun _ => fun
  | [d1, d2, d3] => { results := [.lit (.bool false)], args := [d1, d2, d3] }
  | _ => none }
def SweepLeastWrongFalsely : Prop := sweepLeastRow.holds Try.pinned (OpenSpec.ofChange sweepLeastWrong)

/-- 'bilgelaw22.SweepOldest': WHATEVER THE INPUT: true; the input reads as it did. -/
def sweepOldestSpec : ChangeSpec := { name := "sweepOldest", fn := fun _ => fun
  | [d1, d2, d3] => { results := [.lit (.bool true)], args := [d1, d2, d3] }
  | _ => none }
def sweepOldestRow : OpenClaim := { program := "ytfaklhdafpbkmaa", sum := "9467857c9238f87401bc8e7585197e55c56fb17ad21c9c091b04abb974287830", func := "bilge/bilgelaw22.SweepOldest", spec := "sweepOldest", inPlace := ["internal/bytealg.abigen_runtime_cmpstring"], unfollowed := true, recurses := true, apart := false }
def SweepOldestSaid : Prop := sweepOldestRow.holds Try.pinned (OpenSpec.ofChange sweepOldestSpec)

/-- ITS FALSE NEIGHBOUR: 'it returns false'. Refute it at one input. -/
def sweepOldestWrong : ChangeSpec := { name := "sweepOldest", fn := fun _ => fun
  | [d1, d2, d3] => { results := [.lit (.bool false)], args := [d1, d2, d3] }
  | _ => none }
def SweepOldestWrongFalsely : Prop := sweepOldestRow.holds Try.pinned (OpenSpec.ofChange sweepOldestWrong)

/-- 'bilgelaw22.SweepFails': WHATEVER THE INPUT: true; the input reads as it did. -/
def sweepFailsSpec : ChangeSpec := { name := "sweepFails", fn := fun _ => fun
  | [d1, d2, d3] => { results := [.lit (.bool true)], args := [d1, d2, d3] }
  | _ => none }
def sweepFailsRow : OpenClaim := { program := "ytfaklhdafpbkmaa", sum := "9467857c9238f87401bc8e7585197e55c56fb17ad21c9c091b04abb974287830", func := "bilge/bilgelaw22.SweepFails", spec := "sweepFails", inPlace := ["internal/bytealg.abigen_runtime_cmpstring"], unfollowed := true, recurses := true, apart := false }
def SweepFailsSaid : Prop := sweepFailsRow.holds Try.pinned (OpenSpec.ofChange sweepFailsSpec)

/-- ITS FALSE NEIGHBOUR: 'it returns false'. Refute it at one input. -/
def sweepFailsWrong : ChangeSpec := { name := "sweepFails", fn := fun _ => fun
  | [d1, d2, d3] => { results := [.lit (.bool false)], args := [d1, d2, d3] }
  | _ => none }
def SweepFailsWrongFalsely : Prop := sweepFailsRow.holds Try.pinned (OpenSpec.ofChange sweepFailsWrong)

/-- 'bilgelaw22.SweepKeeps': WHATEVER THE INPUT: true; the input reads as it did. -/
def sweepKeepsSpec : ChangeSpec := { name := "sweepKeeps", fn := fun _ => fun
  | [d1, d2, d3, d4] => { results := [.lit (.bool true)], args := [d1, d2, d3, d4] }
  | _ => none }
def sweepKeepsRow : OpenClaim := { program := "ytfaklhdafpbkmaa", sum := "9467857c9238f87401bc8e7585197e55c56fb17ad21c9c091b04abb974287830", func := "bilge/bilgelaw22.SweepKeeps", spec := "sweepKeeps", inPlace := ["internal/bytealg.abigen_runtime_cmpstring"], unfollowed := true, recurses := true, apart := false }
def SweepKeepsSaid : Prop := sweepKeepsRow.holds Try.pinned (OpenSpec.ofChange sweepKeepsSpec)

/-- ITS FALSE NEIGHBOUR: 'it returns false'. Refute it at one input. -/
def sweepKeepsWrong : ChangeSpec := { name := "sweepKeeps", fn := fun _ => fun
  | [d1, d2, d3, d4] => { results := [.lit (.bool false)], args := [d1, d2, d3, d4] }
  | _ => none }
def SweepKeepsWrongFalsely : Prop := sweepKeepsRow.holds Try.pinned (OpenSpec.ofChange sweepKeepsWrong)

/-- 'bilgelaw15.ImageModel': WHATEVER THE INPUT: true; the input reads as it did. -/
def imageModelSpec : ChangeSpec := { name := "imageModel", fn := fun _ => fun
  | [d] => { results := [.lit (.bool true)], args := [d] }
  | _ => none }
def imageModelRow : OpenClaim := { program := "ytfaklhdafpbkmaa", sum := "9467857c9238f87401bc8e7585197e55c56fb17ad21c9c091b04abb974287830", func := "bilge/bilgelaw15.ImageModel", spec := "imageModel", inPlace := ["internal/bytealg.abigen_runtime_cmpstring", "slices.overlaps[bilge/api.Image]"], unfollowed := true, recurses := true, apart := false }
def ImageModelSaid : Prop := imageModelRow.holds Try.pinned (OpenSpec.ofChange imageModelSpec)

/-- ITS FALSE NEIGHBOUR: 'it returns false'. Refute it at one input. -/
def imageModelWrong : ChangeSpec := { name := "imageModel", fn := fun _ => fun
  | [d] => { results := [.lit (.bool false)], args := [d] }
  | _ => none }
def ImageModelWrongFalsely : Prop := imageModelRow.holds Try.pinned (OpenSpec.ofChange imageModelWrong)

/-- 'bilgelaw15.ImageOrder': WHATEVER THE INPUT: true; the input reads as it did. -/
def imageOrderSpec : ChangeSpec := { name := "imageOrder", fn := fun _ => fun
  | [d1, d2] => { results := [.lit (.bool true)], args := [d1, d2] }
  | _ => none }
def imageOrderRow : OpenClaim := { program := "ytfaklhdafpbkmaa", sum := "9467857c9238f87401bc8e7585197e55c56fb17ad21c9c091b04abb974287830", func := "bilge/bilgelaw15.ImageOrder", spec := "imageOrder", inPlace := ["internal/bytealg.abigen_runtime_cmpstring", "slices.overlaps[bilge/api.Image]"], unfollowed := true, recurses := true, apart := false }
def ImageOrderSaid : Prop := imageOrderRow.holds Try.pinned (OpenSpec.ofChange imageOrderSpec)

/-- ITS FALSE NEIGHBOUR: 'it returns false'. Refute it at one input. -/
def imageOrderWrong : ChangeSpec := { name := "imageOrder", fn := fun _ => fun
  | [d1, d2] => { results := [.lit (.bool false)], args := [d1, d2] }
  | _ => none }
def ImageOrderWrongFalsely : Prop := imageOrderRow.holds Try.pinned (OpenSpec.ofChange imageOrderWrong)

/-- 'bilgelaw15.ImageUsed': WHATEVER THE INPUT: true; the input reads as it did. -/
def imageUsedSpec : ChangeSpec := { name := "imageUsed", fn := fun _ => fun
  | [d1, d2] => { results := [.lit (.bool true)], args := [d1, d2] }
  | _ => none }
def imageUsedRow : OpenClaim := { program := "ytfaklhdafpbkmaa", sum := "9467857c9238f87401bc8e7585197e55c56fb17ad21c9c091b04abb974287830", func := "bilge/bilgelaw15.ImageUsed", spec := "imageUsed", inPlace := ["internal/bytealg.abigen_runtime_cmpstring", "slices.overlaps[bilge/api.Image]"], unfollowed := true, recurses := true, apart := false }
def ImageUsedSaid : Prop := imageUsedRow.holds Try.pinned (OpenSpec.ofChange imageUsedSpec)

/-- ITS FALSE NEIGHBOUR: 'it returns false'. Refute it at one input. -/
def imageUsedWrong : ChangeSpec := { name := "imageUsed", fn := fun _ => fun
  | [d1, d2] => { results := [.lit (.bool false)], args := [d1, d2] }
  | _ => none }
def ImageUsedWrongFalsely : Prop := imageUsedRow.holds Try.pinned (OpenSpec.ofChange imageUsedWrong)

/-- 'bilgelaw15.ImageTouch': WHATEVER THE INPUT: true; the input reads as it did. -/
def imageTouchSpec : ChangeSpec := { name := "imageTouch", fn := fun _ => fun
  | [d1, d2, d3] => { results := [.lit (.bool true)], args := [d1, d2, d3] }
  | _ => none }
def imageTouchRow : OpenClaim := { program := "ytfaklhdafpbkmaa", sum := "9467857c9238f87401bc8e7585197e55c56fb17ad21c9c091b04abb974287830", func := "bilge/bilgelaw15.ImageTouch", spec := "imageTouch", inPlace := ["internal/bytealg.abigen_runtime_cmpstring", "slices.overlaps[bilge/api.Image]"], unfollowed := true, recurses := true, apart := false }
def ImageTouchSaid : Prop := imageTouchRow.holds Try.pinned (OpenSpec.ofChange imageTouchSpec)

/-- ITS FALSE NEIGHBOUR: 'it returns false'. Refute it at one input. -/
def imageTouchWrong : ChangeSpec := { name := "imageTouch", fn := fun _ => fun
  | [d1, d2, d3] => { results := [.lit (.bool false)], args := [d1, d2, d3] }
  | _ => none }
def ImageTouchWrongFalsely : Prop := imageTouchRow.holds Try.pinned (OpenSpec.ofChange imageTouchWrong)

/-- 'bilgelaw15.ImageBack': WHATEVER THE INPUT: true; the input reads as it did. -/
def imageBackSpec : ChangeSpec := { name := "imageBack", fn := fun _ => fun
  | [d1, d2, d3, d4] => { results := [.lit (.bool true)], args := [d1, d2, d3, d4] }
  | _ => none }
def imageBackRow : OpenClaim := { program := "ytfaklhdafpbkmaa", sum := "9467857c9238f87401bc8e7585197e55c56fb17ad21c9c091b04abb974287830", func := "bilge/bilgelaw15.ImageBack", spec := "imageBack", inPlace := ["internal/bytealg.abigen_runtime_cmpstring", "slices.overlaps[bilge/api.Image]"], unfollowed := true, recurses := true, apart := false }
def ImageBackSaid : Prop := imageBackRow.holds Try.pinned (OpenSpec.ofChange imageBackSpec)

/-- ITS FALSE NEIGHBOUR: 'it returns false'. Refute it at one input. -/
def imageBackWrong : ChangeSpec := { name := "imageBack", fn := fun _ => fun
  | [d1, d2, d3, d4] => { results := [.lit (.bool false)], args := [d1, d2, d3, d4] }
  | _ => none }
def ImageBackWrongFalsely : Prop := imageBackRow.holds Try.pinned (OpenSpec.ofChange imageBackWrong)

/-- 'bilgelaw15.ImageKeeps': WHATEVER THE INPUT: true; the input reads as it did. -/
def imageKeepsSpec : ChangeSpec := { name := "imageKeeps", fn := fun _ => fun
  | [d1, d2, d3] => { results := [.lit (.bool true)], args := [d1, d2, d3] }
  | _ => none }
def imageKeepsRow : OpenClaim := { program := "ytfaklhdafpbkmaa", sum := "9467857c9238f87401bc8e7585197e55c56fb17ad21c9c091b04abb974287830", func := "bilge/bilgelaw15.ImageKeeps", spec := "imageKeeps", inPlace := ["internal/bytealg.abigen_runtime_cmpstring", "slices.overlaps[bilge/api.Image]"], unfollowed := true, recurses := true, apart := false }
def ImageKeepsSaid : Prop := imageKeepsRow.holds Try.pinned (OpenSpec.ofChange imageKeepsSpec)

/-- ITS FALSE NEIGHBOUR: 'it returns false'. Refute it at one input. -/
def imageKeepsWrong : ChangeSpec := { name := "imageKeeps", fn := fun _ => fun
  | [d1, d2, d3] => { results := [.lit (.bool false)], args := [d1, d2, d3] }
  | _ => none }
def ImageKeepsWrongFalsely : Prop := imageKeepsRow.holds Try.pinned (OpenSpec.ofChange imageKeepsWrong)

/- THE SECOND FORM. 'bulk': how many values and letters a reading holds, each counted each time it is reached (what is shared counts as often as it is met; a slice's spare places count too). A statement '..UptoSaid' is the law's where the arguments, and the package variables that the reading takes, are together of bulk at most 1048576: NARROWER than '..Said'. Prove '..Said' where nothing that the law and all that it calls make is longer than what came in: it says more and counts as full. Else prove '..UptoSaid'. A law counts once. -/
mutual
def uptoBulk {H : Type} : DataW H → Nat
  | .lit (.string bytes) => bytes.length + 1
  | .lit _ => 1
  | .nil => 1
  | .ptr d => uptoBulk d + 1
  | .slice elems spare => uptoBulkAll elems + uptoBulkAll spare + 1
  | .agg parts => uptoBulkAll parts + 1
  | .iface _ d => uptoBulk d + 1
  | .map entries => uptoBulkEntries entries + 1
  | .held _ => 1
def uptoBulkAll {H : Type} : List (DataW H) → Nat
  | [] => 0
  | d :: r => uptoBulk d + uptoBulkAll r
def uptoBulkEntries {H : Type} : List (Lit × DataW H) → Nat
  | [] => 0
  | x :: r => uptoBulkEntry x + uptoBulkEntries r
def uptoBulkEntry {H : Type} : Lit × DataW H → Nat
  | (.string bytes, d) => bytes.length + uptoBulk d + 1
  | (_, d) => uptoBulk d + 1
 end
def uptoSmall : (H : Type) → List (DataW H) → Bool := fun _ ds => decide (uptoBulkAll ds ≤ 1048576)
def OpenSpec.upto (s : _root_.Go.ChangeSpec) : _root_.Go.OpenSpec := { _root_.Go.OpenSpec.ofChange s with cond := some uptoSmall }

/-- 'bilgelaw22.SweepDead', WHERE WHAT IT READS IS OF BULK AT MOST 1048576: true; the input reads as it did. -/
def sweepDeadUptoRow : OpenClaim := { program := "ytfaklhdafpbkmaa", sum := "9467857c9238f87401bc8e7585197e55c56fb17ad21c9c091b04abb974287830", func := "bilge/bilgelaw22.SweepDead", spec := "sweepDead", inPlace := ["internal/bytealg.abigen_runtime_cmpstring"], unfollowed := true, recurses := true, apart := false, narrowed := true }
def SweepDeadUptoSaid : Prop := sweepDeadUptoRow.holds Try.pinned (OpenSpec.upto sweepDeadSpec)

/-- 'bilgelaw22.SweepParts', WHERE WHAT IT READS IS OF BULK AT MOST 1048576: true; the input reads as it did. -/
def sweepPartsUptoRow : OpenClaim := { program := "ytfaklhdafpbkmaa", sum := "9467857c9238f87401bc8e7585197e55c56fb17ad21c9c091b04abb974287830", func := "bilge/bilgelaw22.SweepParts", spec := "sweepParts", inPlace := ["internal/bytealg.abigen_runtime_cmpstring"], unfollowed := true, recurses := true, apart := false, narrowed := true }
def SweepPartsUptoSaid : Prop := sweepPartsUptoRow.holds Try.pinned (OpenSpec.upto sweepPartsSpec)

/-- 'bilgelaw22.SweepExtra', WHERE WHAT IT READS IS OF BULK AT MOST 1048576: true; the input reads as it did. -/
def sweepExtraUptoRow : OpenClaim := { program := "ytfaklhdafpbkmaa", sum := "9467857c9238f87401bc8e7585197e55c56fb17ad21c9c091b04abb974287830", func := "bilge/bilgelaw22.SweepExtra", spec := "sweepExtra", inPlace := ["internal/bytealg.abigen_runtime_cmpstring"], unfollowed := true, recurses := true, apart := false, narrowed := true }
def SweepExtraUptoSaid : Prop := sweepExtraUptoRow.holds Try.pinned (OpenSpec.upto sweepExtraSpec)

/-- 'bilgelaw22.SweepCollects', WHERE WHAT IT READS IS OF BULK AT MOST 1048576: true; the input reads as it did. -/
def sweepCollectsUptoRow : OpenClaim := { program := "ytfaklhdafpbkmaa", sum := "9467857c9238f87401bc8e7585197e55c56fb17ad21c9c091b04abb974287830", func := "bilge/bilgelaw22.SweepCollects", spec := "sweepCollects", inPlace := ["internal/bytealg.abigen_runtime_cmpstring"], unfollowed := true, recurses := true, apart := false, narrowed := true }
def SweepCollectsUptoSaid : Prop := sweepCollectsUptoRow.holds Try.pinned (OpenSpec.upto sweepCollectsSpec)

/-- 'bilgelaw22.SweepLeast', WHERE WHAT IT READS IS OF BULK AT MOST 1048576: true; the input reads as it did. -/
def sweepLeastUptoRow : OpenClaim := { program := "ytfaklhdafpbkmaa", sum := "9467857c9238f87401bc8e7585197e55c56fb17ad21c9c091b04abb974287830", func := "bilge/bilgelaw22.SweepLeast", spec := "sweepLeast", inPlace := ["internal/bytealg.abigen_runtime_cmpstring"], unfollowed := true, recurses := true, apart := false, narrowed := true }
def SweepLeastUptoSaid : Prop := sweepLeastUptoRow.holds Try.pinned (OpenSpec.upto sweepLeastSpec)

/-- 'bilgelaw22.SweepOldest', WHERE WHAT IT READS IS OF BULK AT MOST 1048576: true; the input reads as it did. -/
def sweepOldestUptoRow : OpenClaim := { program := "ytfaklhdafpbkmaa", sum := "9467857c9238f87401bc8e7585197e55c56fb17ad21c9c091b04abb974287830", func := "bilge/bilgelaw22.SweepOldest", spec := "sweepOldest", inPlace := ["internal/bytealg.abigen_runtime_cmpstring"], unfollowed := true, recurses := true, apart := false, narrowed := true }
def SweepOldestUptoSaid : Prop := sweepOldestUptoRow.holds Try.pinned (OpenSpec.upto sweepOldestSpec)

/-- 'bilgelaw22.SweepFails', WHERE WHAT IT READS IS OF BULK AT MOST 1048576: true; the input reads as it did. -/
def sweepFailsUptoRow : OpenClaim := { program := "ytfaklhdafpbkmaa", sum := "9467857c9238f87401bc8e7585197e55c56fb17ad21c9c091b04abb974287830", func := "bilge/bilgelaw22.SweepFails", spec := "sweepFails", inPlace := ["internal/bytealg.abigen_runtime_cmpstring"], unfollowed := true, recurses := true, apart := false, narrowed := true }
def SweepFailsUptoSaid : Prop := sweepFailsUptoRow.holds Try.pinned (OpenSpec.upto sweepFailsSpec)

/-- 'bilgelaw22.SweepKeeps', WHERE WHAT IT READS IS OF BULK AT MOST 1048576: true; the input reads as it did. -/
def sweepKeepsUptoRow : OpenClaim := { program := "ytfaklhdafpbkmaa", sum := "9467857c9238f87401bc8e7585197e55c56fb17ad21c9c091b04abb974287830", func := "bilge/bilgelaw22.SweepKeeps", spec := "sweepKeeps", inPlace := ["internal/bytealg.abigen_runtime_cmpstring"], unfollowed := true, recurses := true, apart := false, narrowed := true }
def SweepKeepsUptoSaid : Prop := sweepKeepsUptoRow.holds Try.pinned (OpenSpec.upto sweepKeepsSpec)

/-- 'bilgelaw15.ImageModel', WHERE WHAT IT READS IS OF BULK AT MOST 1048576: true; the input reads as it did. -/
def imageModelUptoRow : OpenClaim := { program := "ytfaklhdafpbkmaa", sum := "9467857c9238f87401bc8e7585197e55c56fb17ad21c9c091b04abb974287830", func := "bilge/bilgelaw15.ImageModel", spec := "imageModel", inPlace := ["internal/bytealg.abigen_runtime_cmpstring", "slices.overlaps[bilge/api.Image]"], unfollowed := true, recurses := true, apart := false, narrowed := true }
def ImageModelUptoSaid : Prop := imageModelUptoRow.holds Try.pinned (OpenSpec.upto imageModelSpec)

/-- 'bilgelaw15.ImageOrder', WHERE WHAT IT READS IS OF BULK AT MOST 1048576: true; the input reads as it did. -/
def imageOrderUptoRow : OpenClaim := { program := "ytfaklhdafpbkmaa", sum := "9467857c9238f87401bc8e7585197e55c56fb17ad21c9c091b04abb974287830", func := "bilge/bilgelaw15.ImageOrder", spec := "imageOrder", inPlace := ["internal/bytealg.abigen_runtime_cmpstring", "slices.overlaps[bilge/api.Image]"], unfollowed := true, recurses := true, apart := false, narrowed := true }
def ImageOrderUptoSaid : Prop := imageOrderUptoRow.holds Try.pinned (OpenSpec.upto imageOrderSpec)

/-- 'bilgelaw15.ImageUsed', WHERE WHAT IT READS IS OF BULK AT MOST 1048576: true; the input reads as it did. -/
def imageUsedUptoRow : OpenClaim := { program := "ytfaklhdafpbkmaa", sum := "9467857c9238f87401bc8e7585197e55c56fb17ad21c9c091b04abb974287830", func := "bilge/bilgelaw15.ImageUsed", spec := "imageUsed", inPlace := ["internal/bytealg.abigen_runtime_cmpstring", "slices.overlaps[bilge/api.Image]"], unfollowed := true, recurses := true, apart := false, narrowed := true }
def ImageUsedUptoSaid : Prop := imageUsedUptoRow.holds Try.pinned (OpenSpec.upto imageUsedSpec)

/-- 'bilgelaw15.ImageTouch', WHERE WHAT IT READS IS OF BULK AT MOST 1048576: true; the input reads as it did. -/
def imageTouchUptoRow : OpenClaim := { program := "ytfaklhdafpbkmaa", sum := "9467857c9238f87401bc8e7585197e55c56fb17ad21c9c091b04abb974287830", func := "bilge/bilgelaw15.ImageTouch", spec := "imageTouch", inPlace := ["internal/bytealg.abigen_runtime_cmpstring", "slices.overlaps[bilge/api.Image]"], unfollowed := true, recurses := true, apart := false, narrowed := true }
def ImageTouchUptoSaid : Prop := imageTouchUptoRow.holds Try.pinned (OpenSpec.upto imageTouchSpec)

/-- 'bilgelaw15.ImageBack', WHERE WHAT IT READS IS OF BULK AT MOST 1048576: true; the input reads as it did. -/
def imageBackUptoRow : OpenClaim := { program := "ytfaklhdafpbkmaa", sum := "9467857c9238f87401bc8e7585197e55c56fb17ad21c9c091b04abb974287830", func := "bilge/bilgelaw15.ImageBack", spec := "imageBack", inPlace := ["internal/bytealg.abigen_runtime_cmpstring", "slices.overlaps[bilge/api.Image]"], unfollowed := true, recurses := true, apart := false, narrowed := true }
def ImageBackUptoSaid : Prop := imageBackUptoRow.holds Try.pinned (OpenSpec.upto imageBackSpec)

/-- 'bilgelaw15.ImageKeeps', WHERE WHAT IT READS IS OF BULK AT MOST 1048576: true; the input reads as it did. -/
def imageKeepsUptoRow : OpenClaim := { program := "ytfaklhdafpbkmaa", sum := "9467857c9238f87401bc8e7585197e55c56fb17ad21c9c091b04abb974287830", func := "bilge/bilgelaw15.ImageKeeps", spec := "imageKeeps", inPlace := ["internal/bytealg.abigen_runtime_cmpstring", "slices.overlaps[bilge/api.Image]"], unfollowed := true, recurses := true, apart := false, narrowed := true }
def ImageKeepsUptoSaid : Prop := imageKeepsUptoRow.holds Try.pinned (OpenSpec.upto imageKeepsSpec)

end Rows
end Go.Proofs.Ytfaklhdafpbkmaa
