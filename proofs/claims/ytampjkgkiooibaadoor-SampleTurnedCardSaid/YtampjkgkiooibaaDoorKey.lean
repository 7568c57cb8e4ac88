/- rank.compare: the order of keys, as the sort asks it. -/
import Derived.Test.YtampjkgkiooibaaDoorCmpR
import Derived.Outline
import Derived.Deep.DeepCutAuto
import Derived.Sort.Walk0
import Derived.Shelf.SlSortCmp.InsertionK
namespace Go.Proofs.YtampjkgkiooibaaDoor
open Go.RowKit

/-- what tells when a pod goes -/
structure Ky where
  within : Int
  prio : Int
  excess : Int
  id : ByteArray
abbrev Ky.cells (p : Ky) : Array Value := #[.int .i64 p.within, .int .i64 p.prio, .int .i64 p.excess, .string p.id]
instance : Inhabited Ky := ⟨⟨0, 0, 0, ⟨#[]⟩⟩⟩
def encK : Enc Ky 4 := ⟨fun p => p.cells.toList, fun _ => rfl, fun p u hu => by simp at hu; rcases hu with h | h | h | h <;> subst h <;> rfl, by decide⟩
theorem Rds.ky {w : World} {A : Option Addr} {l : List Ky} (h : Rds w encK A l) {i : Nat} (hi : i < l.length) : ∃ b off, A = some ⟨b, off, none⟩ ∧ b < w.heap.size ∧
    w.cell? ⟨b, off + i * 4, none⟩ = some (.int .i64 l[i].within) ∧ w.cell? ⟨b, off + i * 4 + 1, none⟩ = some (.int .i64 l[i].prio) ∧ w.cell? ⟨b, off + i * 4 + 2, none⟩ = some (.int .i64 l[i].excess) ∧ w.cell? ⟨b, off + i * 4 + 3, none⟩ = some (.string l[i].id) := by
  obtain ⟨b, off, e, hb, hc⟩ := h.at_ hi
  exact ⟨b, off, e, hb, by have := hc 0 (.int .i64 l[i].within) rfl; simpa using this, hc 1 (.int .i64 l[i].prio) rfl, hc 2 (.int .i64 l[i].excess) rfl, hc 3 (.string l[i].id) rfl⟩
/-- does one go ahead of another? -/
def klt (x y : Ky) : Bool := if x.within = y.within then (if x.prio = y.prio then (if x.excess = y.excess then blt x.id y.id else decide (y.excess < x.excess)) else decide (x.prio < y.prio)) else decide (x.within < y.within)
theorem klt_iff (x y : Ky) : klt x y = true ↔ x.within < y.within ∨ (x.within = y.within ∧ (x.prio < y.prio ∨ (x.prio = y.prio ∧ (y.excess < x.excess ∨ (x.excess = y.excess ∧ blt x.id y.id = true))))) := by
  unfold klt
  split
  · rename_i h1
    split
    · rename_i h2
      split
      · rename_i h3
        constructor
        · intro h; exact Or.inr ⟨h1, Or.inr ⟨h2, Or.inr ⟨h3, h⟩⟩⟩
        · rintro (h | ⟨_, h | ⟨_, h | ⟨_, h⟩⟩⟩)
          · omega
          · omega
          · omega
          · exact h
      · rw [decide_eq_true_eq]
        constructor
        · intro h; exact Or.inr ⟨h1, Or.inr ⟨h2, Or.inl h⟩⟩
        · rintro (h | ⟨_, h | ⟨_, h | ⟨h, _⟩⟩⟩)
          · omega
          · omega
          · exact h
          · omega
    · rw [decide_eq_true_eq]
      constructor
      · intro h; exact Or.inr ⟨h1, Or.inl h⟩
      · rintro (h | ⟨_, h | ⟨h, _⟩⟩)
        · omega
        · exact h
        · omega
  · rw [decide_eq_true_eq]
    constructor
    · intro h; exact Or.inl h
    · rintro (h | ⟨h, _⟩)
      · exact h
      · omega
theorem klt_irrefl (x : Ky) : klt x x = false := by
  cases h : klt x x
  · rfl
  · rw [klt_iff, blt_irrefl] at h
    rcases h with h | ⟨_, h | ⟨_, h | ⟨_, h⟩⟩⟩
    · omega
    · omega
    · omega
    · cases h
theorem klt_trans {x y z : Ky} (h1 : klt x y = true) (h2 : klt y z = true) : klt x z = true := by
  rw [klt_iff] at *
  rcases h1 with h1 | ⟨h1, a1 | ⟨a1, b1 | ⟨b1, g1⟩⟩⟩ <;> rcases h2 with h2 | ⟨h2, a2 | ⟨a2, b2 | ⟨b2, g2⟩⟩⟩ <;> first
    | (left; omega)
    | (right; exact ⟨by omega, Or.inl (by omega)⟩)
    | (right; exact ⟨by omega, Or.inr ⟨by omega, Or.inl (by omega)⟩⟩)
    | (right; exact ⟨by omega, Or.inr ⟨by omega, Or.inr ⟨by omega, blt_trans g1 g2⟩⟩⟩)
theorem klt_total {x y : Ky} (h1 : klt x y = false) (h2 : klt y x = false) : x = y := by
  have a : ¬ (klt x y = true) := by rw [h1]; simp
  have b : ¬ (klt y x = true) := by rw [h2]; simp
  rw [klt_iff] at a b
  have e1 : x.within = y.within := by omega
  have e2 : x.prio = y.prio := by omega
  have e3 : x.excess = y.excess := by omega
  have c1 : blt x.id y.id = false := by
    cases h : blt x.id y.id
    · rfl
    · exact absurd (Or.inr ⟨e1, Or.inr ⟨e2, Or.inr ⟨e3, h⟩⟩⟩) a
  have c2 : blt y.id x.id = false := by
    cases h : blt y.id x.id
    · rfl
    · exact absurd (Or.inr ⟨e1.symm, Or.inr ⟨e2.symm, Or.inr ⟨e3.symm, h⟩⟩⟩) b
  cases x
  cases y
  simp only at e1 e2 e3 c1 c2
  rw [e1, e2, e3, blt_total c1 c2]
def cfK (x y : Ky) : Int := orOf [Lib.compareInt x.within y.within, Lib.compareInt x.prio y.prio, Lib.compareInt y.excess x.excess, Lib.compareBytes x.id.data.toList y.id.data.toList]
theorem cmpI_lt (a b : Int) : (Lib.compareInt a b < 0 ↔ a < b) ∧ (Lib.compareInt a b = 0 ↔ a = b) := by
  unfold Lib.compareInt
  by_cases h : a < b
  · rw [if_pos h]; omega
  · rw [if_neg h]
    by_cases h2 : b < a
    · rw [if_pos h2]; omega
    · rw [if_neg h2]; omega
theorem cfK_lt (x y : Ky) : ltOf cfK x y = klt x y := by
  unfold ltOf
  rw [Bool.eq_iff_iff, decide_eq_true_eq, klt_iff]
  obtain ⟨s1, s2⟩ := cmpB_lt x.id.data.toList y.id.data.toList
  have s3 : blt x.id y.id = true ↔ Lib.compareBytes x.id.data.toList y.id.data.toList < 0 := by rw [blt_eq, decide_eq_true_eq]; exact s1.symm
  rw [s3]
  obtain ⟨a1, a2⟩ := cmpI_lt x.within y.within
  obtain ⟨b1, b2⟩ := cmpI_lt x.prio y.prio
  obtain ⟨c1, c2⟩ := cmpI_lt y.excess x.excess
  unfold cfK
  clear s1 s2 s3
  generalize Lib.compareBytes x.id.data.toList y.id.data.toList = z at *
  generalize Lib.compareInt x.within y.within = r1 at *
  generalize Lib.compareInt x.prio y.prio = r2 at *
  generalize Lib.compareInt y.excess x.excess = r3 at *
  have e : orOf [r1, r2, r3, z] = if r1 = 0 then (if r2 = 0 then (if r3 = 0 then (if z = 0 then 0 else z) else r3) else r2) else r1 := rfl
  rw [e]
  by_cases h1 : r1 = 0
  · rw [if_pos h1]
    by_cases h2 : r2 = 0
    · rw [if_pos h2]
      by_cases h3 : r3 = 0
      · rw [if_pos h3]
        by_cases h4 : z = 0
        · rw [if_pos h4]; omega
        · rw [if_neg h4]; omega
      · rw [if_neg h3]; omega
    · rw [if_neg h2]; omega
  · rw [if_neg h1]; omega
theorem swoK : Sort.SWO (ltOf cfK) where
  irrefl x := by rw [cfK_lt]; exact klt_irrefl x
  trans x y z h1 h2 := by rw [cfK_lt] at *; exact klt_trans h1 h2
  ntrans x y z h1 h2 := by
    rw [cfK_lt] at *
    cases h : klt x z
    · rfl
    · exfalso
      cases hyx : klt y x
      · have e := klt_total h1 hyx
        subst e
        rw [h] at h2; cases h2
      · have := klt_trans hyx h
        rw [this] at h2; cases h2

theorem grow_below (w : World) (q : Nat) (os : Array Obj) : Below w.heap.size w (Sort.grow (w.drewN q) os) := ⟨rfl, rfl, rfl, by show w.heap.size ≤ (w.heap ++ os).size; simp, fun k hk => by show (w.heap ++ os)[k]? = _; rw [Array.getElem?_append_left hk]⟩
end Go.Proofs.YtampjkgkiooibaaDoor
