/- Texts: their order, and the words of slices of texts; SameTexts. -/
import Derived.Test.YtampjkgkiooibaaDoorBase
import Derived.Test.YtampjkgkiooibaaDoorProg
import Derived.WalkKit
import Derived.WalkSpells
import Derived.WalkLawsBesides
import Derived.Lib.Hide
import Derived.BigQuiet
import Derived.Deep.QuietTactic
import Derived.Sort.Walk0
namespace Go.Proofs.YtampjkgkiooibaaDoor
open Go.RowKit

def encS : Enc ByteArray 1 := ⟨fun s => [.string s], fun _ => rfl, fun _ u hu => by simp at hu; subst hu; rfl, by decide⟩
theorem Rds.str {w : World} {A : Option Addr} {l : List ByteArray} (h : Rds w encS A l) {i : Nat} (hi : i < l.length) : ∃ b off, A = some ⟨b, off, none⟩ ∧ b < w.heap.size ∧ w.cell? ⟨b, off + i, none⟩ = some (.string l[i]) := by
  obtain ⟨b, off, e, hb, hc⟩ := h.at_ hi
  have := hc 0 (.string l[i]) rfl
  exact ⟨b, off, e, hb, by simpa using this⟩

/-- is a text less than another? -/
def blt (a b : ByteArray) : Bool := Op.bytesLess a.toList b.toList

theorem blt_eq (a b : ByteArray) : blt a b = decide (a.data.toList < b.data.toList) := by
  unfold blt; rw [bytesLess_eq, ByteArray.toList_eq, ByteArray.toList_eq]
theorem blt_irrefl (a : ByteArray) : blt a a = false := by rw [blt_eq]; exact decide_eq_false (List.lt_irrefl _)
theorem blt_trans {a b c : ByteArray} (h1 : blt a b = true) (h2 : blt b c = true) : blt a c = true := by
  rw [blt_eq] at *
  exact decide_eq_true (List.lt_trans (of_decide_eq_true h1) (of_decide_eq_true h2))
theorem data_inj {a b : ByteArray} (h : a.data.toList = b.data.toList) : a = b := by
  obtain ⟨⟨x⟩⟩ := a
  obtain ⟨⟨y⟩⟩ := b
  simp only at h
  rw [h]
theorem blt_total {a b : ByteArray} (h1 : blt a b = false) (h2 : blt b a = false) : a = b := by
  rw [blt_eq] at *
  have h1' := of_decide_eq_false h1
  have h2' := of_decide_eq_false h2
  refine data_inj ?_
  exact List.le_antisymm (List.not_lt.1 h2') (List.not_lt.1 h1')

theorem toList_inj {a b : ByteArray} (h : (a.toList == b.toList) = true) : a = b := by
  have h := eq_of_beq h
  rw [ByteArray.toList_eq, ByteArray.toList_eq] at h
  obtain ⟨⟨x⟩⟩ := a
  obtain ⟨⟨y⟩⟩ := b
  simp only at h
  rw [h]
theorem take_eq_next {l m : List ByteArray} {k : Nat} (hk : k < l.length) (hm : k < m.length) (h : l.take k = m.take k) (he : l[k] = m[k]) : l.take (k + 1) = m.take (k + 1) := by
  rw [List.take_succ_eq_append_getElem hk, List.take_succ_eq_append_getElem hm, h, he]
theorem below_ofDrewN {w w' : World} (h : ∃ n, w' = w.drewN n) : Below w.heap.size w w' := by
  obtain ⟨n, rfl⟩ := h
  exact ⟨rfl, rfl, rfl, Nat.le_refl _, fun _ _ => rfl⟩

end Go.Proofs.YtampjkgkiooibaaDoor
