/- Pods in a row. -/
import Derived.Test.YtlhmhcidknadmaaDoorPodR
import Derived.Deep.MidRow
import Derived.Outline
namespace Go.Proofs.YtlhmhcidknadmaaDoor
open Go.RowKit

def encP : Enc Pd 11 := ⟨fun p => p.cells.toList, fun _ => rfl, fun p u hu => by simp at hu; rcases hu with h | h | h | h | h | h | h | h | h | h | h <;> subst h <;> rfl, by decide⟩
theorem infoPod : (Tryd.prog.info? 29).map (·.size) = some 11 := by kernel_rfl
theorem Rds.range {w : World} {l : List Pd} {b off k : Nat} (hk : k < l.length) (hc : ∀ j u, (encP.enc l[k])[j]? = some u → w.cell? ⟨b, off + (k * 11 + j), none⟩ = some u) : w.rangeAt b (off + k * 11) l[k].cells.toList := fun j v hv => by
  rw [Nat.add_assoc]; exact hc j v hv
abbrev zeroPod : Array Value := #[.string ⟨#[]⟩, .int .i64 0, .bool false, .int .i64 0, .int .i64 0, .int .i64 0, .int .i64 0, .int .i64 0, .int .i64 0, .string ⟨#[]⟩, .int .i64 0]
theorem zeroPod_one : (zeroPod.all (·.oneCell')) = true := by simp [Value.oneCell']
theorem cells_one (p : Pd) : (p.cells.all (·.oneCell')) = true := by simp [Value.oneCell']
end Go.Proofs.YtlhmhcidknadmaaDoor
