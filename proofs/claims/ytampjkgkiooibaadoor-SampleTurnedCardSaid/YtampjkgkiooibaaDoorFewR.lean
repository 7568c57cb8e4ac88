/- bilgeref12's Few. -/
import Derived.Test.YtampjkgkiooibaaDoorPodR
import Derived.Deep.MidRow
import Derived.Outline
namespace Go.Proofs.YtampjkgkiooibaaDoor
open Go.RowKit

def encP : Enc Pd 11 := ⟨fun p => p.cells.toList, fun _ => rfl, fun p u hu => by simp at hu; rcases hu with h | h | h | h | h | h | h | h | h | h | h <;> subst h <;> rfl, by decide⟩
theorem Rds.range {w : World} {l : List Pd} {b off k : Nat} (hk : k < l.length) (hc : ∀ j u, (encP.enc l[k])[j]? = some u → w.cell? ⟨b, off + (k * 11 + j), none⟩ = some u) : w.rangeAt b (off + k * 11) l[k].cells.toList := fun j v hv => by
  rw [Nat.add_assoc]; exact hc j v hv
def fewB (l : List Pd) : Bool := (l.take 200).all Pd.small && decide (l.length ≤ 100)
theorem fewB_no (l : List Pd) (k : Nat) (hk : k < l.length) (h2 : k < 200) (h : l[k].small = false) : fewB l = false := by
  unfold fewB
  have : (l.take 200).all Pd.small = false := by
    rw [List.all_eq_false]
    exact ⟨l[k], List.mem_take_iff_getElem.2 ⟨k, by omega, rfl⟩, by simp [h]⟩
  rw [this]; rfl
theorem fewB_yes (l : List Pd) (k : Nat) (hk : k ≤ l.length) (h2 : k ≤ 200) (he : ¬ (k < l.length ∧ k < 200)) (h : (l.take k).all Pd.small = true) : fewB l = decide ((l.length : Int) ≤ 100) := by
  unfold fewB
  have e : l.take 200 = l.take k := by
    rcases Nat.lt_or_ge k 200 with h3 | h3
    · obtain rfl : k = l.length := by omega
      rw [List.take_of_length_le (by omega), List.take_of_length_le (Nat.le_refl _)]
    · obtain rfl : k = 200 := by omega
      rfl
  rw [e, h, Bool.true_and]
  congr 1
  apply propext
  omega
theorem all_snoc (f : Pd → Bool) (l : List Pd) (k : Nat) (hk : k < l.length) (h : (l.take k).all f = true) (h2 : f l[k] = true) : (l.take (k + 1)).all f = true := by
  rw [List.take_succ_eq_append_getElem hk, List.all_append, h, List.all_cons, h2]; rfl


end Go.Proofs.YtampjkgkiooibaaDoor
