/- bilgeref12's Few. -/
import Derived.Test.YtlnpmdchhmbblaaPodR
import Derived.Deep.MidRow
import Derived.Outline
namespace Go.Proofs.Ytlnpmdchhmbblaa
open Go.RowKit

def encP : Enc Pd 11 := ⟨fun p => p.cells.toList, fun _ => rfl, fun p u hu => by simp at hu; rcases hu with h | h | h | h | h | h | h | h | h | h | h <;> subst h <;> rfl, by decide⟩
theorem infoPod : (Try.prog.info? 24).map (·.size) = some 11 := by kernel_rfl
theorem Rds.range {w : World} {l : List Pd} {b off k : Nat} (hk : k < l.length) (hc : ∀ j u, (encP.enc l[k])[j]? = some u → w.cell? ⟨b, off + (k * 11 + j), none⟩ = some u) : w.rangeAt b (off + k * 11) l[k].cells.toList := fun j v hv => by
  rw [Nat.add_assoc]; exact hc j v hv
def fewB (l : List Pd) : Bool := (l.take 200).all Pd.small && decide (l.length ≤ 100)
theorem fewB_no (l : List Pd) (k : Nat) (hk : k < l.length) (h2 : k < 200) (h : l[k].small = false) : fewB l = false := by
  unfold fewB
  have : (l.take 200).all Pd.small = false := by
    rw [List.all_eq_false]
    exact ⟨l[k], List.mem_take_iff_getElem.2 ⟨k, by omega, rfl⟩, by simp [h]⟩
  rw [this]; rfl
theorem fewB_yes (l : List Pd) (k : Nat) (hk : k ≤ l.length) (h2 : k ≤ 200) (he : ¬ (k < l.length ∧ k < 200)) (h : (l.take k).all Pd.small = true) : fewB l = decide ((l.length : Int) ≤ 100) := by
  unfold fewB
  have e : l.take 200 = l.take k := by
    rcases Nat.lt_or_ge k 200 with h3 | h3
    · obtain rfl : k = l.length := by omega
      rw [List.take_of_length_le (by omega), List.take_of_length_le (Nat.le_refl _)]
    · obtain rfl : k = 200 := by omega
      rfl
  rw [e, h, Bool.true_and]
  congr 1
  apply propext
  omega
theorem all_snoc (f : Pd → Bool) (l : List Pd) (k : Nat) (hk : k < l.length) (h : (l.take k).all f = true) (h2 : f l[k] = true) : (l.take (k + 1)).all f = true := by
  rw [List.take_succ_eq_append_getElem hk, List.all_append, h, List.all_cons, h2]; rfl

set_option maxHeartbeats 2000000 in
theorem few_any (l : List Pd) (A : Option Addr) (c : Nat) (w : World) (hr : Rds w encP A l) (hm : l.length ≤ 9223372036854775807) :
    Calls Try.prog 12 #[.slice A l.length c] w fun e w' => e = .returned (.bool (fewB l)) ∧ Below w.heap.size w w' := by
  have HR := Lib.hid hr
  clear hr
  go_enter Try.func12, Try.ntmps12
  go_wp2_with fail
  go_loopw [3] (fun i wr => ∃ k : Nat, k ≤ l.length ∧ k ≤ 200 ∧ i = .int .i64 k ∧ (l.take k).all Pd.small = true ∧ Below w.heap.size w wr) (fun i _ => l.length - (intOf i).toNat)
  case atStart => exact ⟨0, by omega, by omega, rfl, rfl, Below.refl _ _⟩
  case round =>
    obtain ⟨k, hk, hk2, rfl, hs, hB⟩ := hrel
    have HS := Lib.hid hs
    clear hs
    by_cases hlt : k < l.length ∧ k < 200
    · obtain ⟨h1, h2⟩ := hlt
      obtain ⟨b, off, rfl, hb, hcell⟩ := HR.out.at_ h1
      have dk : decide ((k : Int) < (l.length : Int)) = true := decide_eq_true (by omega)
      have dk2 : decide ((k : Int) < 200) = true := decide_eq_true (by omega)
      have dk3 : (k : Int) < (l.length : Int) := by omega
      have hrange : wr.rangeAt b (off + k * 11) l[k].cells.toList := fun j v hv => (hB.cell (p := ⟨b, off + k * 11 + j, none⟩) hb).trans (Rds.range h1 hcell j v hv)
      have hno := fewB_no l k h1 h2
      have hyes := all_snoc Pd.small l k h1 HS.out
      generalize l[k] = p at *
      have H := Lib.hid (And.intro hB (And.intro hrange (And.intro hno hyes)))
      clear hB hcell hrange hno hyes
      go_wp2_with (refine wpList_load_mid rfl 24 (.tmp 16) rfl b (off + k * 11) rfl p.cells.toList _ H.out.2.1 Try.underlying24 rfl infoPod ?_)
      refine (small_any p _).mono ?_; rintro e w6 ⟨rfl, hb6⟩
      have HB := Lib.hid (H.out.1.trans (hb6.mono H.out.1.size))
      clear hb6
      cases hs : p.small
      · have HN := Lib.hid (H.out.2.2.1 hs)
        clear hs
        go_wp2_with fail
        go_ret
        exact ⟨ret_bool HN.out.symm, HB.out⟩
      · have HN := Lib.hid (H.out.2.2.2 hs)
        clear hs
        go_wp2_with fail
        go_roundw
        case rel => exact ⟨k + 1, by omega, by omega, by go_num, HN.out, HB.out⟩
        case measure => simp [intOf]; omega
    · have HF := Lib.hid (fewB_yes l k hk hk2 hlt HS.out)
      have HB := Lib.hid hB
      clear hB
      by_cases h1 : k < l.length
      · have dk : decide ((k : Int) < (l.length : Int)) = true := decide_eq_true (by omega)
        have dk2 : decide ((k : Int) < 200) = false := decide_eq_false (by omega)
        go_wp2_with fail
        go_ret
        exact ⟨ret_bool HF.out.symm, HB.out⟩
      · have dk : decide ((k : Int) < (l.length : Int)) = false := decide_eq_false (by omega)
        go_wp2_with fail
        go_ret
        exact ⟨ret_bool HF.out.symm, HB.out⟩

end Go.Proofs.Ytlnpmdchhmbblaa
