/- bilgeref21.Without: those whose Ids aren't told. -/
import Derived.Test.YtlhmhcidknadmaaGreatDoorVPlain2
namespace Go.Proofs.YtlhmhcidknadmaaGreatDoor
open Go.RowKit

def leftD (ids : List ByteArray) (l : List Pd) : List Pd := l.filter fun x => !hasD ids x.id
theorem leftD_snoc (ids : List ByteArray) (l : List Pd) (v : Pd) : leftD ids (l ++ [v]) = leftD ids l ++ (if hasD ids v.id then [] else [v]) := by
  unfold leftD
  rw [List.filter_append]
  congr 1
  cases h : hasD ids v.id <;> simp [h]
theorem leftD_len (ids : List ByteArray) (l : List Pd) : (leftD ids l).length ≤ l.length := List.length_filter_le _ _
theorem hasD_next (l : List ByteArray) (s : ByteArray) (k : Nat) (hk : k < l.length) : hasD (l.take (k + 1)) s = (hasD (l.take k) s || (l[k].toList == s.toList)) := by
  unfold hasD
  rw [List.take_succ_eq_append_getElem hk, List.any_append]
  simp
end Go.Proofs.YtlhmhcidknadmaaGreatDoor
