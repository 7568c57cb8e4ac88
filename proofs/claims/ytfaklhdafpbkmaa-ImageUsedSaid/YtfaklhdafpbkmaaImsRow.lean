/- Images and answers among the arguments of a row. -/
import Derived.Test.YtfaklhdafpbkmaaCollect
import Derived.Test.YtfaklhdafpbkmaaContsRow
namespace Go.Proofs.Ytfaklhdafpbkmaa
open Go.ChangeShapes Go.WideShapes Go.ChangeAt Go.RowKit

theorem cellsIm : Try.prog.cellsOf 46 = 3 := by kernel_rfl
theorem cellsBo : Try.prog.cellsOf 4 = 1 := by kernel_rfl
section
variable {H : Type} {enc : TypeId × Value → H} {w : World} {base : Nat} {spare : Nat → Bool} {held : Bool}
set_option maxRecDepth 100000 in
theorem trod_im {fuel : Nat} {cs : List Value} {x : DataW H × List MemPlace} (h : DataW.trod enc Try.prog w base spare held fuel 46 cs = some x) : ∃ p : Im, p.Wf ∧ cs = encI.enc p := by
  obtain ⟨xs, n, _, rfl, hl, hlen, hf⟩ := DataW.trod_struct Try.underlying46 h
  rw [cellsIm] at hl
  match cs, hl with
  | [c0, c1, c2], _ =>
  match xs, hlen with
  | [y0, y1, y2], _ =>
  have f0 := hf 0 _ rfl
  have f1 := hf 1 _ rfl
  have f2 := hf 2 _ rfl
  simp [cellsS, cellsI] at f0 f1 f2
  obtain ⟨s, e0, rfl, w0⟩ := DataW.trod_string Try.underlying9 f0
  obtain ⟨a, e1, rfl, w1⟩ := DataW.trod_int Try.underlying3 f1
  obtain ⟨b, e2, rfl, w2⟩ := DataW.trod_int Try.underlying3 f2
  simp only [List.cons.injEq, and_true] at e0 e1 e2
  subst e0 e1 e2
  unfold maxLen at w0
  exact ⟨⟨s, a, b⟩, ⟨wf_I64.1 w1, wf_I64.1 w2, by simp at w0; omega⟩, rfl⟩
set_option maxRecDepth 100000 in
theorem open_ims {r : Reach} {b0 : Nat} {v : Value} {d : DataW H} {ps : List MemPlace} (hval : Value.okWide Try.prog w r b0 39 v) (hd : DataW.Trod enc Try.prog w base spare held 39 v d ps) :
    ∃ A l c, v = .slice A l.length c ∧ l.length ≤ c ∧ c ≤ 9223372036854775807 ∧ Rds w encI A l ∧ ∀ x ∈ l, Im.Wf x :=
  open_rds_val Try.underlying39 encI cellsIm Im.Wf (fun _ _ _ h => trod_im h) hval hd
set_option maxRecDepth 100000 in
theorem trod_bo {fuel : Nat} {cs : List Value} {x : DataW H × List MemPlace} (h : DataW.trod enc Try.prog w base spare held fuel 4 cs = some x) : ∃ s : Bool, True ∧ cs = encBo.enc s := by
  obtain ⟨s, e0, _⟩ := DataW.trod_bool Try.underlying4 h
  exact ⟨s, trivial, e0⟩
set_option maxRecDepth 100000 in
theorem open_bools {r : Reach} {b0 : Nat} {v : Value} {d : DataW H} {ps : List MemPlace} (hval : Value.okWide Try.prog w r b0 40 v) (hd : DataW.Trod enc Try.prog w base spare held 40 v d ps) :
    ∃ A l c, v = .slice A l.length c ∧ l.length ≤ c ∧ c ≤ 9223372036854775807 ∧ Rds w encBo A l ∧ ∀ x ∈ l, (fun _ : Bool => True) x :=
  open_rds_val Try.underlying40 encBo cellsBo (fun _ : Bool => True) (fun _ _ _ h => trod_bo h) hval hd
end
end Go.Proofs.Ytfaklhdafpbkmaa
