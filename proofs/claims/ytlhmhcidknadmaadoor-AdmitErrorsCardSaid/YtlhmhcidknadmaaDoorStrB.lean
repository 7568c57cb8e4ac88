/- A slice of bytes as a string. -/
import Derived.Test.YtlhmhcidknadmaaDoorPodR
import Derived.Laws.BytesArg
import Derived.Lib.ConvBytes
namespace Go.Proofs.YtlhmhcidknadmaaDoor
open Go.RowKit

def str (l : List UInt8) : ByteArray := ⟨l.toArray⟩
theorem str_list (l : List UInt8) : (str l).data.toList = l := rfl
theorem str_size (l : List UInt8) : (str l).size = l.length := rfl

section
variable {P : Program} {t e d : TypeId}
/-- a slice of bytes as a string -/
theorem run_str (w : World) (ht : P.underlying t = some (.slice e)) (he : P.underlying e = some (.int .u8)) (hd : P.underlying d = some .string) (A : Option Addr) (l : List UInt8) (c : Nat) (hr : Rds w encB A l) :
    (convert t d (.slice A l.length c)).run P w = .ok (.string (str l)) w := by
  rcases A with _ | ad
  · have : l = [] := by
      rcases l with _ | ⟨a, l⟩
      · rfl
      · obtain ⟨b, off, h, _⟩ := hr (by simp); cases h
    subst this
    exact run_convert_bytes_nil w t e ht he _ _ d hd
  · have hl : (loadCells ad l.length).run P w = .ok ((l.map fun b => (b.toNat : Int)).map (Value.int .u8)).toArray w := by
      have := run_loadCells_list (P := P) w ad ((l.map fun b => (b.toNat : Int)).map (Value.int .u8)) (fun j v hj => by
        have hj' : (encB.all l)[j]? = some v := by rw [encB_all]; simpa using hj
        have hne : l ≠ [] := by rintro rfl; simp at hj
        obtain ⟨b, off, h, _, hc⟩ := hr hne
        injection h with h; subst h
        rw [add_mk]
        exact hc j v hj')
      simpa using this
    rw [run_convert_bytes_string w t d e _ _ c ht he hd, run_bytesToString w _ _ c _ hl, foldl_push_bytes]
    congr 2
    show (⟨#[] ++ _⟩ : ByteArray) = _
    unfold str
    congr 1
    apply Array.ext'
    simp
    apply List.ext_getElem?
    intro i
    simp
    cases l[i]? <;> simp
end

theorem underlyingB : Tryd.prog.underlying 5 = some (.int .u8) := Tryd.underlying5

theorem run_strB (w : World) (A : Option Addr) (l : List UInt8) (c : Nat) (hr : Rds w encB A l) : (convert 49 9 (.slice A l.length c)).run Tryd.prog w = .ok (.string (str l)) w :=
  run_str w Tryd.underlying49 Tryd.underlying5 Tryd.underlying9 A l c hr
end Go.Proofs.YtlhmhcidknadmaaDoor
