/- Pods, rows of pods and three numbers among the arguments of a row. -/
import Derived.Test.YtlhmhcidknadmaaDoorSumsV
import Derived.Test.YtlhmhcidknadmaaDoorAgain
import Derived.WalkKit
import Derived.ProofKit
import Derived.OpenShut
import Derived.Laws.IdiomArrays
namespace Go.Proofs.YtlhmhcidknadmaaDoor
open Go.ChangeShapes Go.WideShapes Go.ChangeAt Go.RowKit

theorem wf_I64 {n : Int} : (Lit.int .i64 n).wf = true ↔ I64 n := by
  have e1 : IntKind.i64.min = -9223372036854775808 := by decide
  have e2 : IntKind.i64.max = 9223372036854775807 := by decide
  unfold I64
  simp [Lit.wf, e1, e2]
def Pd.data (H : Type) (p : Pd) : DataW H := .agg [.lit (.string p.id.data.toList), .lit (.int .i64 p.prio), .lit (.bool p.crit), .agg [.lit (.int .i64 p.q0), .lit (.int .i64 p.q1), .lit (.int .i64 p.q2)], .agg [.lit (.int .i64 p.l0), .lit (.int .i64 p.l1), .lit (.int .i64 p.l2)], .lit (.string p.image.data.toList), .lit (.int .i64 p.size)]
theorem cellsP : Tryd.prog.cellsOf 29 = 11 := by kernel_rfl
theorem cellsS : Tryd.prog.cellsOf 9 = 1 := by kernel_rfl
theorem cellsI : Tryd.prog.cellsOf 3 = 1 := by kernel_rfl
theorem cellsB : Tryd.prog.cellsOf 4 = 1 := by kernel_rfl
theorem cellsA : Tryd.prog.cellsOf 22 = 3 := by kernel_rfl

section
variable {H : Type} {enc : TypeId × Value → H} {w : World} {base : Nat} {spare : Nat → Bool} {held : Bool}

set_option maxRecDepth 100000 in
theorem trod_ints {fuel : Nat} {c0 c1 c2 : Value} {x : DataW H × List MemPlace} (h : DataW.trod enc Tryd.prog w base spare held fuel 22 [c0, c1, c2] = some x) :
    ∃ a b c, c0 = .int .i64 a ∧ c1 = .int .i64 b ∧ c2 = .int .i64 c ∧ I64 a ∧ I64 b ∧ I64 c ∧ x = (.agg [.lit (.int .i64 a), .lit (.int .i64 b), .lit (.int .i64 c)], []) := by
  obtain ⟨y0, y1, y2, n, rfl, h0, h1, h2⟩ := trod_array3 Tryd.underlying22 cellsI h
  obtain ⟨a, e0, rfl, w0⟩ := DataW.trod_int Tryd.underlying3 h0
  obtain ⟨b, e1, rfl, w1⟩ := DataW.trod_int Tryd.underlying3 h1
  obtain ⟨c, e2, rfl, w2⟩ := DataW.trod_int Tryd.underlying3 h2
  simp only [List.cons.injEq, and_true] at e0 e1 e2
  exact ⟨a, b, c, e0, e1, e2, wf_I64.1 w0, wf_I64.1 w1, wf_I64.1 w2, rfl⟩

set_option maxRecDepth 100000 in
theorem trod_pd {fuel : Nat} {cs : List Value} {x : DataW H × List MemPlace} (h : DataW.trod enc Tryd.prog w base spare held fuel 29 cs = some x) : ∃ p : Pd, p.Wf ∧ cs = p.cells.toList ∧ x = (p.data H, []) := by
  obtain ⟨xs, n, _, rfl, hl, hlen, hf⟩ := DataW.trod_struct Tryd.underlying29 h
  rw [cellsP] at hl
  match cs, hl with
  | [c0, c1, c2, c3, c4, c5, c6, c7, c8, c9, c10], _ =>
  match xs, hlen with
  | [y0, y1, y2, y3, y4, y5, y6], _ =>
  have f0 := hf 0 _ rfl
  have f1 := hf 1 _ rfl
  have f2 := hf 2 _ rfl
  have f3 := hf 3 _ rfl
  have f4 := hf 4 _ rfl
  have f5 := hf 5 _ rfl
  have f6 := hf 6 _ rfl
  simp [cellsS, cellsI, cellsB, cellsA] at f0 f1 f2 f3 f4 f5 f6
  obtain ⟨s, e0, rfl, w0⟩ := DataW.trod_string Tryd.underlying9 f0
  obtain ⟨pr, e1, rfl, w1⟩ := DataW.trod_int Tryd.underlying3 f1
  obtain ⟨cr, e2, rfl⟩ := DataW.trod_bool Tryd.underlying4 f2
  obtain ⟨q0, q1, q2, rfl, rfl, rfl, v0, v1, v2, rfl⟩ := trod_ints f3
  obtain ⟨l0, l1, l2, rfl, rfl, rfl, u0, u1, u2, rfl⟩ := trod_ints f4
  obtain ⟨im, e5, rfl, w5⟩ := DataW.trod_string Tryd.underlying9 f5
  obtain ⟨sz, e6, rfl, w6⟩ := DataW.trod_int Tryd.underlying3 f6
  simp only [List.cons.injEq, and_true] at e0 e1 e2 e5 e6
  subst e0 e1 e2 e5 e6
  unfold maxLen at w0 w5
  exact ⟨⟨s, pr, cr, q0, q1, q2, l0, l1, l2, im, sz⟩, ⟨wf_I64.1 w1, v0, v1, v2, u0, u1, u2, wf_I64.1 w6, by simp at w0; omega, by simp at w5; omega⟩, rfl, rfl⟩

set_option maxRecDepth 100000 in
theorem open_pd {r : Reach} {b0 : Nat} {v : Value} {d : DataW H} {ps : List MemPlace} (hval : Value.okWide Tryd.prog w r b0 29 v) (hd : DataW.Trod enc Tryd.prog w base spare held 29 v d ps) :
    ∃ p : Pd, p.Wf ∧ v = .agg p.cells ∧ d = p.data H ∧ ps = [] := by
  obtain ⟨cs, rfl, _⟩ := okWide_struct Tryd.underlying29 hval
  obtain ⟨fuel, hf⟩ := hd
  obtain ⟨p, hp, hc, hx⟩ := trod_pd hf
  have hc' : cs = p.cells := by
    have : cs.toList = p.cells.toList := hc
    exact Array.toList_inj.1 this
  simp only [Prod.mk.injEq] at hx
  exact ⟨p, hp, by rw [hc'], hx.1, hx.2⟩

theorem okWide_array {P : Program} {r : Reach} {b0 n : Nat} {t e : TypeId} {v : Value} (ht : P.underlying t = some (.array n e)) (h : Value.okWide P w r b0 t v) : ∃ cs, v = .agg cs ∧ cs.size = P.cellsOf t := by
  simp only [Value.okWide, ht] at h
  obtain ⟨cs, h1, h2, _⟩ := h
  exact ⟨cs, h1, h2⟩
set_option maxRecDepth 100000 in
theorem open_r3 {r : Reach} {b0 : Nat} {v : Value} {d : DataW H} {ps : List MemPlace} (hval : Value.okWide Tryd.prog w r b0 22 v) (hd : DataW.Trod enc Tryd.prog w base spare held 22 v d ps) :
    ∃ room : S3, I64 room.a ∧ I64 room.b ∧ I64 room.c ∧ v = .agg #[.int .i64 room.a, .int .i64 room.b, .int .i64 room.c] := by
  obtain ⟨cs, rfl, hl⟩ := okWide_array Tryd.underlying22 hval
  obtain ⟨fuel, hf⟩ := hd
  rw [cellsA] at hl
  obtain ⟨cs⟩ := cs
  match cs, hl with
  | [d0, d1, d2], _ =>
  obtain ⟨a, b, c, rfl, rfl, rfl, w0, w1, w2, _⟩ := trod_ints hf
  exact ⟨⟨a, b, c⟩, w0, w1, w2, rfl⟩
set_option maxRecDepth 100000 in
theorem open_pods {r : Reach} {b0 : Nat} {v : Value} {d : DataW H} {ps : List MemPlace} (hval : Value.okWide Tryd.prog w r b0 40 v) (hd : DataW.Trod enc Tryd.prog w base spare held 40 v d ps) :
    ∃ A l c, v = .slice A l.length c ∧ l.length ≤ c ∧ c ≤ 9223372036854775807 ∧ Rds w encP A l ∧ ∀ x ∈ l, Pd.Wf x :=
  open_rds_val Tryd.underlying40 encP cellsP Pd.Wf (fun _ _ _ h => by obtain ⟨p, hp, hc, _⟩ := trod_pd h; exact ⟨p, hp, hc⟩) hval hd
end
end Go.Proofs.YtlhmhcidknadmaaDoor
