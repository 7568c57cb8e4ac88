/- Raw samples as data: what is read of a number by its bits. No walk. -/
import Derived.Test.YtampjkgkiooibaaDoorPodR
namespace Go.Proofs.YtampjkgkiooibaaDoor
open Go.RowKit

def exN (b : Nat) : Nat := b / 4503599627370496 % 2048
def frN (b : Nat) : Nat := b % 4503599627370496
def sgB (b : Nat) : Bool := decide (9223372036854775808 ≤ b)
def kindD (s : Bool) (e m : Nat) : Int := if e = 2047 then (if 0 < m then 1 else if s = true then 2 else 7) else if e = 0 ∧ m = 0 then (if s = true then 4 else 5) else if s = true then 3 else 6
def kindN (b : Nat) : Int := kindD (sgB b) (exN b) (frN b)
def fixN (e m : Nat) : Nat := if e < 1075 then (m + 4503599627370496) / 2 ^ (1075 - e) else (m + 4503599627370496) * 2 ^ (e - 1075)
def readD (s : Bool) (e m : Nat) : Int := if kindD s e m ≤ 5 then 0 else if 1086 ≤ e then 9223372036854775807 else if e < 1023 then 0 else (fixN e m : Int)
def readN (b : Nat) : Int := readD (sgB b) (exN b) (frN b)
theorem frN_lt (b : Nat) : frN b < 4503599627370496 := Nat.mod_lt _ (by decide)
theorem exN_lt (b : Nat) : exN b < 2048 := Nat.mod_lt _ (by decide)
theorem fixN_le {e m : Nat} (he : e < 1086) (hm : m < 4503599627370496) : fixN e m ≤ 9223372036854775807 := by
  unfold fixN
  split
  · exact Nat.le_trans (Nat.div_le_self _ _) (by omega)
  · have h : e - 1075 ≤ 10 := by omega
    have h2 : 2 ^ (e - 1075) ≤ 2 ^ 10 := Nat.pow_le_pow_right (by decide) h
    have h3 : (m + 4503599627370496) * 2 ^ (e - 1075) ≤ (m + 4503599627370496) * 2 ^ 10 := Nat.mul_le_mul_left _ h2
    have h4 : (2 : Nat) ^ 10 = 1024 := by decide
    rw [h4] at h3
    have h6 : m + 4503599627370496 ≤ 9007199254740991 := by omega
    exact Nat.le_trans h3 (Nat.le_trans (Nat.mul_le_mul_right _ h6) (by decide))
theorem readD_bd (s : Bool) (e m : Nat) (hm : m < 4503599627370496) : 0 ≤ readD s e m ∧ readD s e m ≤ 9223372036854775807 := by
  unfold readD
  split
  · omega
  · split
    · omega
    · split
      · omega
      · have := @fixN_le e m (by omega) hm
        omega
theorem readN_bd (b : Nat) : 0 ≤ readN b ∧ readN b ≤ 9223372036854775807 := readD_bd _ _ _ (frN_lt b)

/-- what is measured of a pod -/
structure Ug where
  id : ByteArray
  f0 : Nat
  f1 : Nat
  f2 : Nat
abbrev Ug.cells (p : Ug) : Array Value := #[.string p.id, .float .f64 p.f0, .float .f64 p.f1, .float .f64 p.f2]
structure Ug.Wf (g : Ug) : Prop where
  h0 : g.f0 < 18446744073709551616
  h1 : g.f1 < 18446744073709551616
  h2 : g.f2 < 18446744073709551616
instance : Inhabited Ug := ⟨⟨⟨#[]⟩, 0, 0, 0⟩⟩
def encG : Enc Ug 4 := ⟨fun p => p.cells.toList, fun _ => rfl, fun p u hu => by simp at hu; rcases hu with h | h | h | h <;> subst h <;> rfl, by decide⟩
theorem Rds.ug {w : World} {A : Option Addr} {l : List Ug} (h : Rds w encG A l) {i : Nat} (hi : i < l.length) : ∃ b off, A = some ⟨b, off, none⟩ ∧ b < w.heap.size ∧
    w.cell? ⟨b, off + i * 4, none⟩ = some (.string l[i].id) ∧ w.cell? ⟨b, off + i * 4 + 1, none⟩ = some (.float .f64 l[i].f0) ∧ w.cell? ⟨b, off + i * 4 + 2, none⟩ = some (.float .f64 l[i].f1) ∧ w.cell? ⟨b, off + i * 4 + 3, none⟩ = some (.float .f64 l[i].f2) := by
  obtain ⟨b, off, e, hb, hc⟩ := h.at_ hi
  exact ⟨b, off, e, hb, by have := hc 0 (.string l[i].id) rfl; simpa using this, hc 1 (.float .f64 l[i].f0) rfl, hc 2 (.float .f64 l[i].f1) rfl, hc 3 (.float .f64 l[i].f2) rfl⟩
/-- a raw sample -/
structure Rw where
  time : Int
  v0 : Nat
  v1 : Nat
  v2 : Nat
  A : Option Addr
  uses : List Ug
  c : Nat
abbrev Rw.cells (s : Rw) : Array Value := #[.int .i64 s.time, .float .f64 s.v0, .float .f64 s.v1, .float .f64 s.v2, .slice s.A s.uses.length s.c]
structure Rw.Wf (r : Rw) (w : World) : Prop where
  h0 : r.v0 < 18446744073709551616
  h1 : r.v1 < 18446744073709551616
  h2 : r.v2 < 18446744073709551616
  time : I64 r.time
  rds : Rds w encG r.A r.uses
  us : ∀ g ∈ r.uses, g.Wf
  ids : ∀ g ∈ r.uses, g.id.size ≤ 9223372036854775807
  len : r.uses.length ≤ r.c
  cap : r.c ≤ 9223372036854775807
end Go.Proofs.YtampjkgkiooibaaDoor
