/- Raw samples, numbers of whatever bits among the arguments of a row. -/
import Derived.Test.YtampjkgkiooibaaDoorRawPlain
import Derived.Test.YtampjkgkiooibaaDoorPodRowR
namespace Go.Proofs.YtampjkgkiooibaaDoor
open Go.ChangeShapes Go.WideShapes Go.ChangeAt Go.RowKit
theorem okWide_array {P : Program} {w : World} {r : Reach} {b0 n : Nat} {t e : TypeId} {v : Value} (ht : P.underlying t = some (.array n e)) (h : Value.okWide P w r b0 t v) : ∃ cs, v = .agg cs ∧ cs.size = P.cellsOf t := by
  simp only [Value.okWide, ht] at h
  obtain ⟨cs, h1, h2, _⟩ := h
  exact ⟨cs, h1, h2⟩
theorem wf_u32 {n : Int} (h : (Lit.int .u32 n).wf = true) : 0 ≤ n ∧ n ≤ 4294967295 := by
  have e1 : IntKind.u32.min = 0 := by decide
  have e2 : IntKind.u32.max = 4294967295 := by decide
  simpa [Lit.wf, e1, e2] using h
theorem wf_u64 {n : Int} (h : (Lit.int .u64 n).wf = true) : 0 ≤ n ∧ n ≤ 18446744073709551615 := by
  have e1 : IntKind.u64.min = 0 := by decide
  have e2 : IntKind.u64.max = 18446744073709551615 := by decide
  simpa [Lit.wf, e1, e2] using h
theorem cellsF : Tryd.prog.cellsOf 22 = 1 := by kernel_rfl
theorem cellsF3 : Tryd.prog.cellsOf 23 = 3 := by kernel_rfl
theorem cellsG : Tryd.prog.cellsOf 47 = 4 := by kernel_rfl
theorem cellsGs : Tryd.prog.cellsOf 24 = 1 := by kernel_rfl
theorem cellsR : Tryd.prog.cellsOf 26 = 5 := by kernel_rfl
section
variable {H : Type} {enc : TypeId × Value → H} {w : World} {base : Nat} {spare : Nat → Bool} {held : Bool}
theorem trod_f64 {P : Program} {t : TypeId} {fuel : Nat} {cs : List Value} {x : DataW H × List MemPlace} (ht : P.underlying t = some (.float .f64)) (h : DataW.trod enc P w base spare held fuel t cs = some x) :
    ∃ b, cs = [.float .f64 b] ∧ b < 18446744073709551616 := by
  cases fuel with
  | zero => simp [DataW.trod] at h
  | succ n =>
    unfold DataW.trod at h
    rw [ht] at h
    split at h
    all_goals first | (simp_all [Lit.wf]; done) | skip
    rename_i k k' b heq
    injection heq with heq
    injection heq with heq
    subst heq
    split at h
    · rename_i hc
      obtain ⟨rfl, hw⟩ := hc
      exact ⟨_, rfl, by simpa [Lit.wf] using hw⟩
    · cases h
set_option maxRecDepth 100000 in
theorem trod_f3 {fuel : Nat} {c0 c1 c2 : Value} {x : DataW H × List MemPlace} (h : DataW.trod enc Tryd.prog w base spare held fuel 23 [c0, c1, c2] = some x) :
    ∃ a b c, c0 = .float .f64 a ∧ c1 = .float .f64 b ∧ c2 = .float .f64 c ∧ a < 18446744073709551616 ∧ b < 18446744073709551616 ∧ c < 18446744073709551616 := by
  obtain ⟨y0, y1, y2, n, rfl, h0, h1, h2⟩ := trod_array3 Tryd.underlying23 cellsF h
  obtain ⟨a, e0, w0⟩ := trod_f64 Tryd.underlying22 h0
  obtain ⟨b, e1, w1⟩ := trod_f64 Tryd.underlying22 h1
  obtain ⟨c, e2, w2⟩ := trod_f64 Tryd.underlying22 h2
  simp only [List.cons.injEq, and_true] at e0 e1 e2
  exact ⟨a, b, c, e0, e1, e2, w0, w1, w2⟩
set_option maxRecDepth 100000 in
theorem trod_ug {fuel : Nat} {cs : List Value} {x : DataW H × List MemPlace} (h : DataW.trod enc Tryd.prog w base spare held fuel 47 cs = some x) : ∃ g : Ug, (g.Wf ∧ g.id.size ≤ 9223372036854775807) ∧ cs = encG.enc g := by
  obtain ⟨xs, n, _, rfl, hl, hlen, hf⟩ := DataW.trod_struct Tryd.underlying47 h
  rw [cellsG] at hl
  match cs, hl with
  | [c0, c1, c2, c3], _ =>
  match xs, hlen with
  | [y0, y1], _ =>
  have f0 := hf 0 _ rfl
  have f1 := hf 1 _ rfl
  simp [cellsS, cellsF3] at f0 f1
  obtain ⟨s, e0, rfl, w0⟩ := DataW.trod_string Tryd.underlying9 f0
  obtain ⟨a, b, c, rfl, rfl, rfl, wa, wb, wc⟩ := trod_f3 f1
  simp only [List.cons.injEq, and_true] at e0
  subst e0
  unfold maxLen at w0
  exact ⟨⟨s, a, b, c⟩, ⟨⟨wa, wb, wc⟩, by simp at w0; omega⟩, rfl⟩
set_option maxRecDepth 100000 in
theorem open_raw {r : Reach} {b0 : Nat} {v : Value} {d : DataW H} {ps : List MemPlace} (hval : Value.okWide Tryd.prog w r b0 26 v) (hd : DataW.Trod enc Tryd.prog w base spare held 26 v d ps) :
    ∃ z : Rw, z.Wf w ∧ v = .agg z.cells := by
  obtain ⟨cs, rfl, hl0⟩ := okWide_struct Tryd.underlying26 hval
  obtain ⟨fuel, hf0⟩ := hd
  obtain ⟨cs⟩ := cs
  obtain ⟨xs, n, _, _, hl, hlen, hf⟩ := DataW.trod_struct Tryd.underlying26 hf0
  rw [cellsR] at hl
  simp only [Value.cells] at hl hf
  match cs, hl with
  | [c0, c1, c2, c3, c4], _ =>
  match xs, hlen with
  | [y0, y1, y2], _ =>
  have f0 := hf 0 _ rfl
  have f1 := hf 1 _ rfl
  have f2 := hf 2 _ rfl
  simp [cellsI, cellsF3, cellsGs] at f0 f1 f2
  obtain ⟨t, e0, rfl, w0⟩ := DataW.trod_int Tryd.underlying3 f0
  obtain ⟨a, b, c, rfl, rfl, rfl, wa, wb, wc⟩ := trod_f3 f1
  obtain ⟨A, l, cc, h1, h2, h3, h4, h5⟩ := open_rds Tryd.underlying24 encG cellsG (fun g : Ug => g.Wf ∧ g.id.size ≤ 9223372036854775807) (fun _ _ _ h => trod_ug h) f2
  simp only [List.cons.injEq, and_true] at e0 h1
  subst e0 h1
  exact ⟨⟨t, a, b, c, A, l, cc⟩, ⟨wa, wb, wc, wf_I64.1 w0, h4, fun g hg => (h5 g hg).1, fun g hg => (h5 g hg).2, h2, h3⟩, rfl⟩
set_option maxRecDepth 100000 in
theorem open_i64 {r : Reach} {b0 : Nat} {v : Value} {d : DataW H} {ps : List MemPlace} (hval : Value.okWide Tryd.prog w r b0 3 v) (hd : DataW.Trod enc Tryd.prog w base spare held 3 v d ps) : ∃ n : Int, v = .int .i64 n ∧ I64 n := by
  obtain ⟨n, rfl⟩ := okWide_int Tryd.underlying3 hval
  obtain ⟨fuel, hf⟩ := hd
  obtain ⟨a, hcs, _, wf⟩ := DataW.trod_int Tryd.underlying3 hf
  simp only [Value.cells, List.cons.injEq, and_true] at hcs
  injection hcs with _ hcs
  subst hcs
  exact ⟨n, rfl, wf_I64.1 wf⟩
theorem cellsW : Tryd.prog.cellsOf 42 = 1 := by kernel_rfl
theorem cellsW3 : Tryd.prog.cellsOf 43 = 3 := by kernel_rfl
set_option maxRecDepth 100000 in
theorem open_u643 {r : Reach} {b0 : Nat} {v : Value} {d : DataW H} {ps : List MemPlace} (hval : Value.okWide Tryd.prog w r b0 43 v) (hd : DataW.Trod enc Tryd.prog w base spare held 43 v d ps) :
    ∃ a b c : Nat, a < 18446744073709551616 ∧ b < 18446744073709551616 ∧ c < 18446744073709551616 ∧ v = .agg #[.int .u64 a, .int .u64 b, .int .u64 c] := by
  obtain ⟨cs, rfl, hl⟩ := okWide_array Tryd.underlying43 hval
  obtain ⟨fuel, hf⟩ := hd
  rw [cellsW3] at hl
  obtain ⟨cs⟩ := cs
  match cs, hl with
  | [d0, d1, d2], _ =>
  obtain ⟨y0, y1, y2, n, _, h0, h1, h2⟩ := trod_array3 Tryd.underlying43 cellsW hf
  obtain ⟨a, e0, rfl, w0⟩ := DataW.trod_int Tryd.underlying42 h0
  obtain ⟨b, e1, rfl, w1⟩ := DataW.trod_int Tryd.underlying42 h1
  obtain ⟨c, e2, rfl, w2⟩ := DataW.trod_int Tryd.underlying42 h2
  simp only [List.cons.injEq, and_true] at e0 e1 e2
  subst e0 e1 e2
  have h0 := wf_u64 w0; have h1 := wf_u64 w1; have h2 := wf_u64 w2
  exact ⟨a.toNat, b.toNat, c.toNat, by omega, by omega, by omega, by rw [Int.toNat_of_nonneg h0.1, Int.toNat_of_nonneg h1.1, Int.toNat_of_nonneg h2.1]⟩
end
end Go.Proofs.YtampjkgkiooibaaDoor
