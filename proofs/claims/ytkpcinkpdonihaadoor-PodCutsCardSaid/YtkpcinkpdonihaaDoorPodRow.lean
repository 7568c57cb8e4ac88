/- A pod as a datum: opened and shut. -/
import Derived.Test.YtkpcinkpdonihaaDoorPod
import Derived.Test.YtkpcinkpdonihaaDoorCards
import Derived.Test.YtkpcinkpdonihaaDoorTie
import Derived.WalkKit
import Derived.ProofKit
import Derived.OpenShut
import Derived.Laws.IdiomArrays
namespace Go.Proofs.YtkpcinkpdonihaaDoor
open Go.ChangeShapes Go.WideShapes Go.ChangeAt Go.RowKit

theorem wf_I64 {n : Int} : (Lit.int .i64 n).wf = true ↔ I64 n := by
  have e1 : IntKind.i64.min = -9223372036854775808 := by decide
  have e2 : IntKind.i64.max = 9223372036854775807 := by decide
  unfold I64
  simp [Lit.wf, e1, e2]
def Pd.data (H : Type) (p : Pd) : DataW H := .agg [.lit (.string p.id.data.toList), .lit (.int .i64 p.prio), .lit (.bool p.crit), .agg [.lit (.int .i64 p.q0), .lit (.int .i64 p.q1), .lit (.int .i64 p.q2)], .agg [.lit (.int .i64 p.l0), .lit (.int .i64 p.l1), .lit (.int .i64 p.l2)], .lit (.string p.image.data.toList), .lit (.int .i64 p.size)]
theorem cellsP : Tryd.prog.cellsOf 26 = 11 := by kernel_rfl
theorem cellsS : Tryd.prog.cellsOf 9 = 1 := by kernel_rfl
theorem cellsI : Tryd.prog.cellsOf 3 = 1 := by kernel_rfl
theorem cellsB : Tryd.prog.cellsOf 4 = 1 := by kernel_rfl
theorem cellsA : Tryd.prog.cellsOf 24 = 3 := by kernel_rfl

section
variable {H : Type} {enc : TypeId × Value → H} {w : World} {base : Nat} {spare : Nat → Bool} {held : Bool}

theorem trod_ints {fuel : Nat} {c0 c1 c2 : Value} {x : DataW H × List MemPlace} (h : DataW.trod enc Tryd.prog w base spare held fuel 24 [c0, c1, c2] = some x) :
    ∃ a b c, c0 = .int .i64 a ∧ c1 = .int .i64 b ∧ c2 = .int .i64 c ∧ I64 a ∧ I64 b ∧ I64 c ∧ x = (.agg [.lit (.int .i64 a), .lit (.int .i64 b), .lit (.int .i64 c)], []) := by
  obtain ⟨y0, y1, y2, n, rfl, h0, h1, h2⟩ := trod_array3 Tryd.underlying24 cellsI h
  obtain ⟨a, e0, rfl, w0⟩ := DataW.trod_int Tryd.underlying3 h0
  obtain ⟨b, e1, rfl, w1⟩ := DataW.trod_int Tryd.underlying3 h1
  obtain ⟨c, e2, rfl, w2⟩ := DataW.trod_int Tryd.underlying3 h2
  simp only [List.cons.injEq, and_true] at e0 e1 e2
  exact ⟨a, b, c, e0, e1, e2, wf_I64.1 w0, wf_I64.1 w1, wf_I64.1 w2, rfl⟩

theorem trod_pd {fuel : Nat} {cs : List Value} {x : DataW H × List MemPlace} (h : DataW.trod enc Tryd.prog w base spare held fuel 26 cs = some x) : ∃ p : Pd, p.Wf ∧ cs = p.cells.toList ∧ x = (p.data H, []) := by
  obtain ⟨xs, n, _, rfl, hl, hlen, hf⟩ := DataW.trod_struct Tryd.underlying26 h
  rw [cellsP] at hl
  match cs, hl with
  | [c0, c1, c2, c3, c4, c5, c6, c7, c8, c9, c10], _ =>
  match xs, hlen with
  | [y0, y1, y2, y3, y4, y5, y6], _ =>
  have f0 := hf 0 _ rfl
  have f1 := hf 1 _ rfl
  have f2 := hf 2 _ rfl
  have f3 := hf 3 _ rfl
  have f4 := hf 4 _ rfl
  have f5 := hf 5 _ rfl
  have f6 := hf 6 _ rfl
  simp [cellsS, cellsI, cellsB, cellsA] at f0 f1 f2 f3 f4 f5 f6
  obtain ⟨s, e0, rfl, w0⟩ := DataW.trod_string Tryd.underlying9 f0
  obtain ⟨pr, e1, rfl, w1⟩ := DataW.trod_int Tryd.underlying3 f1
  obtain ⟨cr, e2, rfl⟩ := DataW.trod_bool Tryd.underlying4 f2
  obtain ⟨q0, q1, q2, rfl, rfl, rfl, v0, v1, v2, rfl⟩ := trod_ints f3
  obtain ⟨l0, l1, l2, rfl, rfl, rfl, u0, u1, u2, rfl⟩ := trod_ints f4
  obtain ⟨im, e5, rfl, w5⟩ := DataW.trod_string Tryd.underlying9 f5
  obtain ⟨sz, e6, rfl, w6⟩ := DataW.trod_int Tryd.underlying3 f6
  simp only [List.cons.injEq, and_true] at e0 e1 e2 e5 e6
  subst e0 e1 e2 e5 e6
  unfold maxLen at w0 w5
  exact ⟨⟨s, pr, cr, q0, q1, q2, l0, l1, l2, im, sz⟩, ⟨wf_I64.1 w1, v0, v1, v2, u0, u1, u2, wf_I64.1 w6, by simp at w0; omega, by simp at w5; omega⟩, rfl, rfl⟩

theorem open_pd {r : Reach} {b0 : Nat} {v : Value} {d : DataW H} {ps : List MemPlace} (hval : Value.okWide Tryd.prog w r b0 26 v) (hd : DataW.Trod enc Tryd.prog w base spare held 26 v d ps) :
    ∃ p : Pd, p.Wf ∧ v = .agg p.cells ∧ d = p.data H ∧ ps = [] := by
  obtain ⟨cs, rfl, _⟩ := okWide_struct Tryd.underlying26 hval
  obtain ⟨fuel, hf⟩ := hd
  obtain ⟨p, hp, hc, hx⟩ := trod_pd hf
  have hc' : cs = p.cells := by
    have : cs.toList = p.cells.toList := hc
    exact Array.toList_inj.1 this
  simp only [Prod.mk.injEq] at hx
  exact ⟨p, hp, by rw [hc'], hx.1, hx.2⟩

theorem shut_ints {n : Nat} {a b c : Int} (h0 : I64 a) (h1 : I64 b) (h2 : I64 c) :
    DataW.trod enc Tryd.prog w base spare held (n + 2) 24 [.int .i64 a, .int .i64 b, .int .i64 c] = some (.agg [.lit (.int .i64 a), .lit (.int .i64 b), .lit (.int .i64 c)], []) := by
  have r3 : List.range 3 = [0, 1, 2] := rfl
  simp [DataW.trod, Tryd.underlying24, Tryd.underlying3, cellsA, cellsI, r3, wf_I64.2 h0, wf_I64.2 h1, wf_I64.2 h2]

theorem shut_pd (p : Pd) (hp : p.Wf) : DataW.Trod enc Tryd.prog w base spare held 26 (.agg p.cells) (p.data H) [] := by
  have hi : p.id.size ≤ maxLen := by have := hp.id; unfold maxLen; omega
  have hm : p.image.size ≤ maxLen := by have := hp.image; unfold maxLen; omega
  have i0 := shut_ints (enc := enc) (w := w) (base := base) (spare := spare) (held := held) (n := 0) hp.q0 hp.q1 hp.q2
  have i1 := shut_ints (enc := enc) (w := w) (base := base) (spare := spare) (held := held) (n := 0) hp.l0 hp.l1 hp.l2
  refine ⟨3, ?_⟩
  have := trod_struct_mk (enc := enc) (P := Tryd.prog) (w := w) (base := base) (spare := spare) (held := held) (n := 2) (cs := p.cells.toList)
    (xs := [(.lit (.string p.id.data.toList), []), (.lit (.int .i64 p.prio), []), (.lit (.bool p.crit), []), (.agg [.lit (.int .i64 p.q0), .lit (.int .i64 p.q1), .lit (.int .i64 p.q2)], []), (.agg [.lit (.int .i64 p.l0), .lit (.int .i64 p.l1), .lit (.int .i64 p.l2)], []), (.lit (.string p.image.data.toList), []), (.lit (.int .i64 p.size), [])])
    Tryd.underlying26 (by rw [cellsP]; rfl)
    (by
      simp [cellsS, cellsI, cellsB, cellsA, i0, i1]
      simp [DataW.trod, Tryd.underlying9, Tryd.underlying3, Tryd.underlying4, hi, hm, wf_I64.2 hp.prio, wf_I64.2 hp.size])
  simpa [Pd.data, Value.cells] using this
end
end Go.Proofs.YtkpcinkpdonihaaDoor
