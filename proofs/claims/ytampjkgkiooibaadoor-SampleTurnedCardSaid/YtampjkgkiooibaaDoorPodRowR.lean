/- Pods and 32-bit numbers among the arguments of a row. -/
import Derived.Test.YtampjkgkiooibaaDoorPodR
import Derived.Test.YtampjkgkiooibaaDoorAgain
import Derived.WalkKit
import Derived.ProofKit
import Derived.OpenShut
import Derived.Laws.IdiomArrays
namespace Go.Proofs.YtampjkgkiooibaaDoor
open Go.ChangeShapes Go.WideShapes Go.ChangeAt Go.RowKit

theorem wf_I64 {n : Int} : (Lit.int .i64 n).wf = true ↔ I64 n := by
  have e1 : IntKind.i64.min = -9223372036854775808 := by decide
  have e2 : IntKind.i64.max = 9223372036854775807 := by decide
  unfold I64
  simp [Lit.wf, e1, e2]
def Pd.data (H : Type) (p : Pd) : DataW H := .agg [.lit (.string p.id.data.toList), .lit (.int .i64 p.prio), .lit (.bool p.crit), .agg [.lit (.int .i64 p.q0), .lit (.int .i64 p.q1), .lit (.int .i64 p.q2)], .agg [.lit (.int .i64 p.l0), .lit (.int .i64 p.l1), .lit (.int .i64 p.l2)], .lit (.string p.image.data.toList), .lit (.int .i64 p.size)]
theorem cellsS : Tryd.prog.cellsOf 9 = 1 := by kernel_rfl
theorem cellsI : Tryd.prog.cellsOf 3 = 1 := by kernel_rfl
theorem cellsB : Tryd.prog.cellsOf 4 = 1 := by kernel_rfl
theorem cellsA : Tryd.prog.cellsOf 29 = 3 := by kernel_rfl

section
variable {H : Type} {enc : TypeId × Value → H} {w : World} {base : Nat} {spare : Nat → Bool} {held : Bool}

set_option maxRecDepth 100000 in
theorem trod_ints {fuel : Nat} {c0 c1 c2 : Value} {x : DataW H × List MemPlace} (h : DataW.trod enc Tryd.prog w base spare held fuel 29 [c0, c1, c2] = some x) :
    ∃ a b c, c0 = .int .i64 a ∧ c1 = .int .i64 b ∧ c2 = .int .i64 c ∧ I64 a ∧ I64 b ∧ I64 c ∧ x = (.agg [.lit (.int .i64 a), .lit (.int .i64 b), .lit (.int .i64 c)], []) := by
  obtain ⟨y0, y1, y2, n, rfl, h0, h1, h2⟩ := trod_array3 Tryd.underlying29 cellsI h
  obtain ⟨a, e0, rfl, w0⟩ := DataW.trod_int Tryd.underlying3 h0
  obtain ⟨b, e1, rfl, w1⟩ := DataW.trod_int Tryd.underlying3 h1
  obtain ⟨c, e2, rfl, w2⟩ := DataW.trod_int Tryd.underlying3 h2
  simp only [List.cons.injEq, and_true] at e0 e1 e2
  exact ⟨a, b, c, e0, e1, e2, wf_I64.1 w0, wf_I64.1 w1, wf_I64.1 w2, rfl⟩



set_option maxRecDepth 100000 in
theorem open_u32 {r : Reach} {b0 : Nat} {v : Value} {d : DataW H} {ps : List MemPlace} (hval : Value.okWide Tryd.prog w r b0 57 v) (hd : DataW.Trod enc Tryd.prog w base spare held 57 v d ps) :
    ∃ x : Nat, x < 4294967296 ∧ v = .int .u32 x := by
  obtain ⟨n, rfl⟩ := okWide_int Tryd.underlying57 hval
  obtain ⟨fuel, hf⟩ := hd
  obtain ⟨a, hcs, _, wf⟩ := DataW.trod_int Tryd.underlying57 hf
  simp only [Value.cells, List.cons.injEq, and_true] at hcs
  injection hcs with _ hcs
  subst hcs
  have e1 : IntKind.u32.min = 0 := by decide
  have e2 : IntKind.u32.max = 4294967295 := by decide
  have h2 : 0 ≤ n ∧ n ≤ 4294967295 := by simpa [Lit.wf, e1, e2] using wf
  exact ⟨n.toNat, by omega, by rw [Int.toNat_of_nonneg h2.1]⟩
end
end Go.Proofs.YtampjkgkiooibaaDoor
