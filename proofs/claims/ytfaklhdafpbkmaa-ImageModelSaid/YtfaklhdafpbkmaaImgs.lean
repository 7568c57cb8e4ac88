/- Images: their order, Ahead, Drop, Few, Right, Place. -/
import Derived.Test.YtfaklhdafpbkmaaNext
namespace Go.Proofs.Ytfaklhdafpbkmaa
open Go.RowKit

/-- an image, as data -/
structure Im where
  name : ByteArray
  size : Int
  last : Int
abbrev Im.cells (p : Im) : Array Value := #[.string p.name, .int .i64 p.size, .int .i64 p.last]
structure Im.Wf (p : Im) : Prop where
  size : I64 p.size
  last : I64 p.last
  name : p.name.size ≤ 9223372036854775807
instance : Inhabited Im := ⟨⟨⟨#[]⟩, 0, 0⟩⟩
def encI : Enc Im 3 := ⟨fun p => p.cells.toList, fun _ => rfl, fun p u hu => by simp at hu; rcases hu with h | h | h <;> subst h <;> rfl, by decide⟩
theorem Rds.im {w : World} {A : Option Addr} {l : List Im} (h : Rds w encI A l) {i : Nat} (hi : i < l.length) : ∃ b off, A = some ⟨b, off, none⟩ ∧ b < w.heap.size ∧
    w.cell? ⟨b, off + i * 3, none⟩ = some (.string l[i].name) ∧ w.cell? ⟨b, off + i * 3 + 1, none⟩ = some (.int .i64 l[i].size) ∧ w.cell? ⟨b, off + i * 3 + 2, none⟩ = some (.int .i64 l[i].last) := by
  obtain ⟨b, off, e, hb, hc⟩ := h.at_ hi
  exact ⟨b, off, e, hb, by have := hc 0 (.string l[i].name) rfl; simpa using this, hc 1 (.int .i64 l[i].size) rfl, hc 2 (.int .i64 l[i].last) rfl⟩
theorem elemI : Elem Try.prog 39 46 3 32 := by
  obtain ⟨i, h1, h2, h3, h4⟩ := info_parts (show (Try.prog.info? 46).map (fun i => (i.zero, i.size, i.bytes)) = some (some (.agg #[.string ⟨#[]⟩, .int .i64 0, .int .i64 0]), 3, 32) by kernel_rfl)
  exact ⟨Try.underlying39, i, _, h1, h2, h3, h4, rfl⟩

/-- does one go ahead of another? -/
def imlt (x y : Im) : Bool := if x.last = y.last then (if x.size = y.size then blt x.name y.name else decide (y.size < x.size)) else decide (x.last < y.last)
theorem imlt_iff (x y : Im) : imlt x y = true ↔ x.last < y.last ∨ (x.last = y.last ∧ (y.size < x.size ∨ (x.size = y.size ∧ blt x.name y.name = true))) := by
  unfold imlt
  split
  · split
    · constructor
      · intro h; exact Or.inr ⟨by assumption, Or.inr ⟨by assumption, h⟩⟩
      · rintro (h | ⟨_, h | ⟨_, h⟩⟩)
        · omega
        · omega
        · exact h
    · rw [decide_eq_true_eq]
      constructor
      · intro h; exact Or.inr ⟨by assumption, Or.inl h⟩
      · rintro (h | ⟨_, h | ⟨h, _⟩⟩)
        · omega
        · exact h
        · omega
  · rw [decide_eq_true_eq]
    constructor
    · intro h; exact Or.inl h
    · rintro (h | ⟨h, _⟩)
      · exact h
      · omega
theorem imlt_irrefl (x : Im) : imlt x x = false := by
  cases h : imlt x x
  · rfl
  · rw [imlt_iff] at h
    rcases h with h | ⟨_, h | ⟨_, h⟩⟩
    · omega
    · omega
    · rw [blt_irrefl] at h; cases h
theorem imlt_trans {x y z : Im} (h1 : imlt x y = true) (h2 : imlt y z = true) : imlt x z = true := by
  rw [imlt_iff] at *
  rcases h1 with h1 | ⟨h1, h1' | ⟨h1', h1''⟩⟩ <;> rcases h2 with h2 | ⟨h2, h2' | ⟨h2', h2''⟩⟩
  · left; omega
  · left; omega
  · left; omega
  · left; omega
  · right; exact ⟨by omega, Or.inl (by omega)⟩
  · right; exact ⟨by omega, Or.inl (by omega)⟩
  · left; omega
  · right; exact ⟨by omega, Or.inl (by omega)⟩
  · right; exact ⟨by omega, Or.inr ⟨by omega, blt_trans h1'' h2''⟩⟩
theorem imlt_total {x y : Im} (h1 : imlt x y = false) (h2 : imlt y x = false) : x = y := by
  have a : ¬ (imlt x y = true) := by rw [h1]; simp
  have b : ¬ (imlt y x = true) := by rw [h2]; simp
  rw [imlt_iff] at a b
  have e1 : x.last = y.last := by omega
  have e2 : x.size = y.size := by omega
  have c1 : blt x.name y.name = false := by
    cases h : blt x.name y.name
    · rfl
    · exact absurd (Or.inr ⟨e1, Or.inr ⟨e2, h⟩⟩) a
  have c2 : blt y.name x.name = false := by
    cases h : blt y.name x.name
    · rfl
    · exact absurd (Or.inr ⟨e1.symm, Or.inr ⟨e2.symm, h⟩⟩) b
  cases x
  cases y
  simp only at e1 e2 c1 c2
  rw [e1, e2, blt_total c1 c2]

theorem refAhead_any (x y : Im) (w : World) :
    Calls Try.prog 64 #[.agg x.cells, .agg y.cells] w fun e w' => e = .returned (.bool (imlt x y)) ∧ Below w.heap.size w w' := by
  have hbel : Below w.heap.size w ((w.alloc (.cells x.cells 46)).alloc (.cells y.cells 46)) := ((Below.refl _ _).alloc (Nat.le_refl _) _).alloc (by simp) _
  have HB := Lib.hid hbel
  clear hbel
  have HD : Hid (imlt x y = if x.last = y.last then (if x.size = y.size then blt x.name y.name else decide (y.size < x.size)) else decide (x.last < y.last)) := rfl
  by_cases h1 : x.last = y.last
  · have d1 : (x.last != y.last) = false := by rw [h1]; simp
    by_cases h2 : x.size = y.size
    · have d2 : (x.size != y.size) = false := by rw [h2]; simp
      have HV : Hid (imlt x y = blt x.name y.name) := by show _ = _; rw [HD.out, if_pos h1, if_pos h2]
      clear h1 h2
      go_enter Try.func64, Try.ntmps64
      go_wp2_with fail
      go_ret
      exact ⟨ret_bool HV.out.symm, HB.out⟩
    · have d2 : (x.size != y.size) = true := by rw [bne_iff_ne]; exact h2
      have HV : Hid (imlt x y = decide (y.size < x.size)) := by show _ = _; rw [HD.out, if_pos h1, if_neg h2]
      clear h1 h2
      go_enter Try.func64, Try.ntmps64
      go_wp2_with fail
      go_ret
      exact ⟨ret_bool HV.out.symm, HB.out⟩
  · have d1 : (x.last != y.last) = true := by rw [bne_iff_ne]; exact h1
    have HV : Hid (imlt x y = decide (x.last < y.last)) := by show _ = _; rw [HD.out, if_neg h1]
    clear h1
    go_enter Try.func64, Try.ntmps64
    go_wp2_with fail
    go_ret
    exact ⟨ret_bool HV.out.symm, HB.out⟩
end Go.Proofs.Ytfaklhdafpbkmaa
