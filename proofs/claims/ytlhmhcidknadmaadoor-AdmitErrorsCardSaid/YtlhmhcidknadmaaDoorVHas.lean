/- bilgeref21.Has: is a text one of these? -/
import Derived.Test.YtlhmhcidknadmaaDoorVFit
namespace Go.Proofs.YtlhmhcidknadmaaDoor
open Go.RowKit

def hasD (l : List ByteArray) (s : ByteArray) : Bool := l.any fun x => x.toList == s.toList
theorem hasD_snoc (l : List ByteArray) (s : ByteArray) (i : Nat) (hi : i < l.length) (h : hasD (l.take i) s = false) (h2 : (l[i].toList == s.toList) = false) : hasD (l.take (i + 1)) s = false := by
  unfold hasD at *
  rw [List.take_succ_eq_append_getElem hi, List.any_append, h]
  simp only [List.any_cons, List.any_nil, Bool.or_false, Bool.false_or]
  exact h2
theorem hasD_hit (l : List ByteArray) (s : ByteArray) (i : Nat) (hi : i < l.length) (h2 : (l[i].toList == s.toList) = true) : hasD l s = true := List.any_eq_true.2 ⟨l[i], List.getElem_mem hi, h2⟩
end Go.Proofs.YtlhmhcidknadmaaDoor
