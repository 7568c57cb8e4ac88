/- Containers and texts among the arguments of a row. -/
import Derived.Test.YtfaklhdafpbkmaaConts
import Derived.Test.YtfaklhdafpbkmaaAgain
import Derived.Laws.IdiomArrays
namespace Go.Proofs.Ytfaklhdafpbkmaa
open Go.ChangeShapes Go.WideShapes Go.ChangeAt Go.RowKit

theorem wf_I64 {n : Int} : (Lit.int .i64 n).wf = true ↔ I64 n := by
  have e1 : IntKind.i64.min = -9223372036854775808 := by decide
  have e2 : IntKind.i64.max = 9223372036854775807 := by decide
  unfold I64
  simp [Lit.wf, e1, e2]
theorem cellsS : Try.prog.cellsOf 9 = 1 := by kernel_rfl
theorem cellsI : Try.prog.cellsOf 3 = 1 := by kernel_rfl
theorem cellsC : Try.prog.cellsOf 35 = 4 := by kernel_rfl
theorem cellsX : Try.prog.cellsOf 33 = 2 := by kernel_rfl
section
variable {H : Type} {enc : TypeId × Value → H} {w : World} {base : Nat} {spare : Nat → Bool} {held : Bool}
set_option maxRecDepth 100000 in
theorem trod_box {fuel : Nat} {cs : List Value} {x : DataW H × List MemPlace} (h : DataW.trod enc Try.prog w base spare held fuel 33 cs = some x) : ∃ a b, I64 a ∧ I64 b ∧ cs = [.int .i64 a, .int .i64 b] := by
  obtain ⟨xs, n, _, rfl, hl, hlen, hf⟩ := DataW.trod_struct Try.underlying33 h
  rw [cellsX] at hl
  match cs, hl with
  | [c0, c1], _ =>
  match xs, hlen with
  | [y0, y1], _ =>
  have f0 := hf 0 _ rfl
  have f1 := hf 1 _ rfl
  simp [cellsI] at f0 f1
  obtain ⟨a, e0, rfl, w0⟩ := DataW.trod_int Try.underlying3 f0
  obtain ⟨b, e1, rfl, w1⟩ := DataW.trod_int Try.underlying3 f1
  simp only [List.cons.injEq, and_true] at e0 e1
  exact ⟨a, b, wf_I64.1 w0, wf_I64.1 w1, by rw [e0, e1]⟩
set_option maxRecDepth 100000 in
theorem trod_cn {fuel : Nat} {cs : List Value} {x : DataW H × List MemPlace} (h : DataW.trod enc Try.prog w base spare held fuel 35 cs = some x) : ∃ p : Cn, p.Wf ∧ cs = encC.enc p := by
  obtain ⟨xs, n, _, rfl, hl, hlen, hf⟩ := DataW.trod_struct Try.underlying35 h
  rw [cellsC] at hl
  match cs, hl with
  | [c0, c1, c2, c3], _ =>
  match xs, hlen with
  | [y0, y1, y2], _ =>
  have f0 := hf 0 _ rfl
  have f1 := hf 1 _ rfl
  have f2 := hf 2 _ rfl
  simp [cellsS, cellsI, cellsX] at f0 f1 f2
  obtain ⟨s, e0, rfl, w0⟩ := DataW.trod_string Try.underlying9 f0
  obtain ⟨a, b, wa, wb, e1⟩ := trod_box f1
  obtain ⟨z, e2, rfl, w2⟩ := DataW.trod_int Try.underlying3 f2
  simp only [List.cons.injEq, and_true] at e0 e1 e2
  obtain ⟨e1, e1'⟩ := e1
  subst e0 e1 e1' e2
  unfold maxLen at w0
  exact ⟨⟨s, a, b, z⟩, ⟨wa, wb, wf_I64.1 w2, by simp at w0; omega⟩, rfl⟩
set_option maxRecDepth 100000 in
theorem open_conts {r : Reach} {b0 : Nat} {v : Value} {d : DataW H} {ps : List MemPlace} (hval : Value.okWide Try.prog w r b0 22 v) (hd : DataW.Trod enc Try.prog w base spare held 22 v d ps) :
    ∃ A l c, v = .slice A l.length c ∧ l.length ≤ c ∧ c ≤ 9223372036854775807 ∧ Rds w encC A l ∧ ∀ x ∈ l, Cn.Wf x :=
  open_rds_val Try.underlying22 encC cellsC Cn.Wf (fun _ _ _ h => trod_cn h) hval hd
set_option maxRecDepth 100000 in
theorem trod_str {fuel : Nat} {cs : List Value} {x : DataW H × List MemPlace} (h : DataW.trod enc Try.prog w base spare held fuel 9 cs = some x) : ∃ s : ByteArray, s.size ≤ 9223372036854775807 ∧ cs = encS.enc s := by
  obtain ⟨s, e0, _, w0⟩ := DataW.trod_string Try.underlying9 h
  unfold maxLen at w0
  exact ⟨s, by simp at w0; omega, e0⟩
set_option maxRecDepth 100000 in
theorem open_texts {r : Reach} {b0 : Nat} {v : Value} {d : DataW H} {ps : List MemPlace} (hval : Value.okWide Try.prog w r b0 23 v) (hd : DataW.Trod enc Try.prog w base spare held 23 v d ps) :
    ∃ A l c, v = .slice A l.length c ∧ l.length ≤ c ∧ c ≤ 9223372036854775807 ∧ Rds w encS A l ∧ ∀ x ∈ l, x.size ≤ 9223372036854775807 :=
  open_rds_val Try.underlying23 encS cellsS (fun s : ByteArray => s.size ≤ 9223372036854775807) (fun _ _ _ h => trod_str h) hval hd
set_option maxRecDepth 100000 in
theorem open_i64 {r : Reach} {b0 : Nat} {v : Value} {d : DataW H} {ps : List MemPlace} (hval : Value.okWide Try.prog w r b0 3 v) (hd : DataW.Trod enc Try.prog w base spare held 3 v d ps) : ∃ n : Int, v = .int .i64 n ∧ I64 n := by
  obtain ⟨n, rfl⟩ := okWide_int Try.underlying3 hval
  obtain ⟨fuel, hf⟩ := hd
  obtain ⟨a, hcs, _, wf⟩ := DataW.trod_int Try.underlying3 hf
  simp only [Value.cells, List.cons.injEq, and_true] at hcs
  injection hcs with _ hcs
  subst hcs
  exact ⟨n, rfl, wf_I64.1 wf⟩
end
end Go.Proofs.Ytfaklhdafpbkmaa
