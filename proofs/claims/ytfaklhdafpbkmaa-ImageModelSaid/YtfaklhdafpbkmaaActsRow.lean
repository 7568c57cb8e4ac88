/- Acts among the arguments of a row. -/
import Derived.Test.YtfaklhdafpbkmaaActs
import Derived.Test.YtfaklhdafpbkmaaContsRow
namespace Go.Proofs.Ytfaklhdafpbkmaa
open Go.ChangeShapes Go.WideShapes Go.ChangeAt Go.RowKit
theorem cellsAc : Try.prog.cellsOf 54 = 5 := by kernel_rfl
theorem cellsSs : Try.prog.cellsOf 23 = 1 := by kernel_rfl
section
variable {H : Type} {enc : TypeId × Value → H} {w : World} {base : Nat} {spare : Nat → Bool} {held : Bool}
set_option maxRecDepth 100000 in
theorem trod_ac {fuel : Nat} {cs : List Value} {x : DataW H × List MemPlace} (h : DataW.trod enc Try.prog w base spare held fuel 54 cs = some x) : ∃ p : Ac, p.Wf w ∧ cs = encA.enc p := by
  obtain ⟨xs, n, _, rfl, hl, hlen, hf⟩ := DataW.trod_struct Try.underlying54 h
  rw [cellsAc] at hl
  match cs, hl with
  | [c0, c1, c2, c3, c4], _ =>
  match xs, hlen with
  | [y0, y1, y2, y3, y4], _ =>
  have f0 := hf 0 _ rfl
  have f1 := hf 1 _ rfl
  have f2 := hf 2 _ rfl
  have f3 := hf 3 _ rfl
  have f4 := hf 4 _ rfl
  simp [cellsS, cellsI, cellsSs] at f0 f1 f2 f3 f4
  obtain ⟨a, e0, rfl, w0⟩ := DataW.trod_int Try.underlying3 f0
  obtain ⟨s, e1, rfl, w1⟩ := DataW.trod_string Try.underlying9 f1
  obtain ⟨b, e2, rfl, w2⟩ := DataW.trod_int Try.underlying3 f2
  obtain ⟨r, e3, rfl, w3⟩ := DataW.trod_int Try.underlying3 f3
  obtain ⟨ua, us, uc, e4, h4, h5, h6, _⟩ := open_rds Try.underlying23 encS cellsS (fun _ : ByteArray => True) (fun _ _ _ h => by obtain ⟨s, _, hs⟩ := trod_str h; exact ⟨s, trivial, hs⟩) f4
  simp only [List.cons.injEq, and_true] at e0 e1 e2 e3 e4
  subst e0 e1 e2 e3 e4
  exact ⟨⟨a, s, b, r, ua, us, uc⟩, ⟨wf_I64.1 w2, h6, by show us.length ≤ _; omega⟩, rfl⟩
set_option maxRecDepth 100000 in
theorem open_acts {r : Reach} {b0 : Nat} {v : Value} {d : DataW H} {ps : List MemPlace} (hval : Value.okWide Try.prog w r b0 51 v) (hd : DataW.Trod enc Try.prog w base spare held 51 v d ps) :
    ∃ A l c, v = .slice A l.length c ∧ l.length ≤ c ∧ c ≤ 9223372036854775807 ∧ Rds w encA A l ∧ ∀ x ∈ l, Ac.Wf w x :=
  open_rds_val Try.underlying51 encA cellsAc (Ac.Wf w) (fun _ _ _ h => trod_ac h) hval hd
end
end Go.Proofs.Ytfaklhdafpbkmaa
