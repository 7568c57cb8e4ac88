/- Raw samples and tables among the arguments of a row. -/
import Derived.Test.YtlnpmdchhmbblaaRawPlain
import Derived.Test.YtlnpmdchhmbblaaU3Row
namespace Go.Proofs.Ytlnpmdchhmbblaa
open Go.ChangeShapes Go.WideShapes Go.ChangeAt Go.RowKit
theorem cellsF : Try.prog.cellsOf 40 = 1 := by kernel_rfl
theorem cellsF3 : Try.prog.cellsOf 41 = 3 := by kernel_rfl
theorem cellsG : Try.prog.cellsOf 69 = 4 := by kernel_rfl
theorem cellsGs : Try.prog.cellsOf 42 = 1 := by kernel_rfl
theorem cellsR : Try.prog.cellsOf 44 = 5 := by kernel_rfl
theorem cellsE : Try.prog.cellsOf 48 = 12 := by kernel_rfl
section
variable {H : Type} {enc : TypeId × Value → H} {w : World} {base : Nat} {spare : Nat → Bool} {held : Bool}
theorem trod_f64 {P : Program} {t : TypeId} {fuel : Nat} {cs : List Value} {x : DataW H × List MemPlace} (ht : P.underlying t = some (.float .f64)) (h : DataW.trod enc P w base spare held fuel t cs = some x) :
    ∃ b, cs = [.float .f64 b] ∧ b < 18446744073709551616 := by
  cases fuel with
  | zero => simp [DataW.trod] at h
  | succ n =>
    unfold DataW.trod at h
    rw [ht] at h
    split at h
    all_goals first | (simp_all [Lit.wf]; done) | skip
    rename_i k k' b heq
    injection heq with heq
    injection heq with heq
    subst heq
    split at h
    · rename_i hc
      obtain ⟨rfl, hw⟩ := hc
      exact ⟨_, rfl, by simpa [Lit.wf] using hw⟩
    · cases h
set_option maxRecDepth 100000 in
theorem trod_f3 {fuel : Nat} {c0 c1 c2 : Value} {x : DataW H × List MemPlace} (h : DataW.trod enc Try.prog w base spare held fuel 41 [c0, c1, c2] = some x) :
    ∃ a b c, c0 = .float .f64 a ∧ c1 = .float .f64 b ∧ c2 = .float .f64 c ∧ a < 18446744073709551616 ∧ b < 18446744073709551616 ∧ c < 18446744073709551616 := by
  obtain ⟨y0, y1, y2, n, rfl, h0, h1, h2⟩ := trod_array3 Try.underlying41 cellsF h
  obtain ⟨a, e0, w0⟩ := trod_f64 Try.underlying40 h0
  obtain ⟨b, e1, w1⟩ := trod_f64 Try.underlying40 h1
  obtain ⟨c, e2, w2⟩ := trod_f64 Try.underlying40 h2
  simp only [List.cons.injEq, and_true] at e0 e1 e2
  exact ⟨a, b, c, e0, e1, e2, w0, w1, w2⟩
set_option maxRecDepth 100000 in
theorem trod_ug {fuel : Nat} {cs : List Value} {x : DataW H × List MemPlace} (h : DataW.trod enc Try.prog w base spare held fuel 69 cs = some x) : ∃ g : Ug, (g.Wf ∧ g.id.size ≤ 9223372036854775807) ∧ cs = encG.enc g := by
  obtain ⟨xs, n, _, rfl, hl, hlen, hf⟩ := DataW.trod_struct Try.underlying69 h
  rw [cellsG] at hl
  match cs, hl with
  | [c0, c1, c2, c3], _ =>
  match xs, hlen with
  | [y0, y1], _ =>
  have f0 := hf 0 _ rfl
  have f1 := hf 1 _ rfl
  simp [cellsS, cellsF3] at f0 f1
  obtain ⟨s, e0, rfl, w0⟩ := DataW.trod_string Try.underlying9 f0
  obtain ⟨a, b, c, rfl, rfl, rfl, wa, wb, wc⟩ := trod_f3 f1
  simp only [List.cons.injEq, and_true] at e0
  subst e0
  unfold maxLen at w0
  exact ⟨⟨s, a, b, c⟩, ⟨⟨wa, wb, wc⟩, by simp at w0; omega⟩, rfl⟩
set_option maxRecDepth 100000 in
theorem open_raw {r : Reach} {b0 : Nat} {v : Value} {d : DataW H} {ps : List MemPlace} (hval : Value.okWide Try.prog w r b0 44 v) (hd : DataW.Trod enc Try.prog w base spare held 44 v d ps) :
    ∃ z : Rw, z.Wf w ∧ v = .agg z.cells := by
  obtain ⟨cs, rfl, hl0⟩ := okWide_struct Try.underlying44 hval
  obtain ⟨fuel, hf0⟩ := hd
  obtain ⟨cs⟩ := cs
  obtain ⟨xs, n, _, _, hl, hlen, hf⟩ := DataW.trod_struct Try.underlying44 hf0
  rw [cellsR] at hl
  simp only [Value.cells] at hl hf
  match cs, hl with
  | [c0, c1, c2, c3, c4], _ =>
  match xs, hlen with
  | [y0, y1, y2], _ =>
  have f0 := hf 0 _ rfl
  have f1 := hf 1 _ rfl
  have f2 := hf 2 _ rfl
  simp [cellsI, cellsF3, cellsGs] at f0 f1 f2
  obtain ⟨t, e0, rfl, w0⟩ := DataW.trod_int Try.underlying3 f0
  obtain ⟨a, b, c, rfl, rfl, rfl, wa, wb, wc⟩ := trod_f3 f1
  obtain ⟨A, l, cc, h1, h2, h3, h4, h5⟩ := open_rds Try.underlying42 encG cellsG (fun g : Ug => g.Wf ∧ g.id.size ≤ 9223372036854775807) (fun _ _ _ h => trod_ug h) f2
  simp only [List.cons.injEq, and_true] at e0 h1
  subst e0 h1
  exact ⟨⟨t, a, b, c, A, l, cc⟩, ⟨wa, wb, wc, wf_I64.1 w0, h4, fun g hg => (h5 g hg).1, fun g hg => (h5 g hg).2, h2, h3⟩, rfl⟩
set_option maxRecDepth 100000 in
theorem trod_en {fuel : Nat} {cs : List Value} {x : DataW H × List MemPlace} (h : DataW.trod enc Try.prog w base spare held fuel 48 cs = some x) : ∃ e : En, (e.pod.Wf ∧ I64 e.phase) ∧ cs = encN.enc e := by
  obtain ⟨xs, n, _, rfl, hl, hlen, hf⟩ := DataW.trod_struct Try.underlying48 h
  rw [cellsE] at hl
  match cs, hl with
  | [c0, c1, c2, c3, c4, c5, c6, c7, c8, c9, c10, c11], _ =>
  match xs, hlen with
  | [y0, y1], _ =>
  have f0 := hf 0 _ rfl
  have f1 := hf 1 _ rfl
  simp [cellsP, cellsI] at f0 f1
  obtain ⟨p, hp, hc, _⟩ := trod_pd f0
  obtain ⟨z, e1, rfl, w1⟩ := DataW.trod_int Try.underlying3 f1
  simp only [List.cons.injEq, and_true] at e1 hc
  obtain ⟨g0, g1, g2, g3, g4, g5, g6, g7, g8, g9, g10⟩ := hc
  subst e1 g0 g1 g2 g3 g4 g5 g6 g7 g8 g9 g10
  exact ⟨⟨p, z⟩, ⟨hp, wf_I64.1 w1⟩, rfl⟩
set_option maxRecDepth 100000 in
theorem open_ens {r : Reach} {b0 : Nat} {v : Value} {d : DataW H} {ps : List MemPlace} (hval : Value.okWide Try.prog w r b0 52 v) (hd : DataW.Trod enc Try.prog w base spare held 52 v d ps) :
    ∃ A l c, v = .slice A l.length c ∧ l.length ≤ c ∧ c ≤ 9223372036854775807 ∧ Rds w encN A l ∧ ∀ x ∈ l, x.pod.Wf ∧ I64 x.phase :=
  open_rds_val Try.underlying52 encN cellsE (fun e : En => e.pod.Wf ∧ I64 e.phase) (fun _ _ _ h => trod_en h) hval hd
end
end Go.Proofs.Ytlnpmdchhmbblaa
