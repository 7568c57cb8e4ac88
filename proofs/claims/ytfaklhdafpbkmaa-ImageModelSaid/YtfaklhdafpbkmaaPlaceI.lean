/- bilgeref15.Place: where a name stands; quiet contracts of Has and Place. -/
import Derived.Test.YtfaklhdafpbkmaaImgs
import Derived.BigQuiet
namespace Go.Proofs.Ytfaklhdafpbkmaa
open Go.RowKit

def placeOf (l : List Im) (s : ByteArray) : Int := match l.findIdx? (fun x => x.name.toList == s.toList) with | some k => (k : Int) | none => -1
theorem placeOf_yes (l : List Im) (s : ByteArray) (k : Nat) (hk : k < l.length) (h0 : (l.take k).findIdx? (fun x => x.name.toList == s.toList) = none) (h : (l[k].name.toList == s.toList) = true) : placeOf l s = (k : Int) := by
  unfold placeOf
  have e : l.findIdx? (fun x => x.name.toList == s.toList) = some k := by
    rw [List.findIdx?_eq_some_iff_getElem]
    refine ⟨hk, h, fun j hj => ?_⟩
    have := List.findIdx?_eq_none_iff.1 h0 l[j] (List.mem_take_iff_getElem.2 ⟨j, by omega, rfl⟩)
    simp only [this]; simp
  rw [e]
theorem placeOf_next (l : List Im) (s : ByteArray) (k : Nat) (hk : k < l.length) (h0 : (l.take k).findIdx? (fun x => x.name.toList == s.toList) = none) (h : (l[k].name.toList == s.toList) = false) : (l.take (k + 1)).findIdx? (fun x => x.name.toList == s.toList) = none := by
  rw [List.findIdx?_eq_none_iff] at h0 ⊢
  intro x hx
  rw [List.take_succ_eq_append_getElem hk, List.mem_append, List.mem_singleton] at hx
  rcases hx with hx | rfl
  · exact h0 x hx
  · exact h
theorem placeOf_at {l : List Im} (hn : (l.map Im.name).Nodup) {j : Nat} (hj : j < l.length) : placeOf l l[j].name = (j : Int) := by
  refine placeOf_yes l _ j hj ?_ (by simp)
  rw [List.findIdx?_eq_none_iff]
  intro x hx
  obtain ⟨i, hi, rfl⟩ := List.mem_take_iff_getElem.1 hx
  cases h : (l[i].name.toList == l[j].name.toList)
  · rfl
  · have e := toList_inj h
    have hp := List.pairwise_iff_getElem.1 (List.pairwise_map.1 hn) i j (by omega) hj (by omega)
    exact absurd e hp
theorem place_any (l : List Im) (s : ByteArray) (A : Option Addr) (c : Nat) (w : World) (hr : Rds w encI A l) (hm : l.length ≤ 9223372036854775807) :
    Calls Try.prog 33 #[.slice A l.length c, .string s] w fun e w' => e = .returned (.int .i64 (placeOf l s)) ∧ w = w' := by
  have HR := Lib.hid hr
  clear hr
  go_enter Try.func33, Try.ntmps33
  go_wp2_with fail
  go_loop [5] (fun i => ∃ k : Nat, k ≤ l.length ∧ i = .int .i64 k ∧ (l.take k).findIdx? (fun x => x.name.toList == s.toList) = none) (fun i => l.length - (intOf i).toNat)
  case atStart => exact ⟨0, by omega, rfl, rfl⟩
  case round =>
    obtain ⟨k, hk, rfl, h0⟩ := hrel
    have H0 := Lib.hid h0
    clear h0
    by_cases hlt : k < l.length
    · obtain ⟨b, off, rfl, hb, hcell, _, _⟩ := HR.out.im hlt
      have dk : decide ((k : Int) < (l.length : Int)) = true := decide_eq_true (by omega)
      have dk2 : (k : Int) < (l.length : Int) := by omega
      cases he : (l[k].name.toList == s.toList)
      · have HN := Lib.hid (placeOf_next l s k hlt H0.out he)
        generalize l[k] = t at *
        go_wp2_with fail
        go_round
        case rel => exact ⟨k + 1, by omega, by go_num, HN.out⟩
        case measure => simp [intOf]; omega
      · have HY := Lib.hid (placeOf_yes l s k hlt H0.out he)
        generalize l[k] = t at *
        go_wp2_with fail
        go_ret
        exact ⟨by rw [HY.out]; rfl, rfl⟩
    · obtain rfl : k = l.length := by omega
      have HF := Lib.hid (show placeOf l s = -1 by have := H0.out; rw [List.take_length] at this; unfold placeOf; rw [this])
      have dk : decide ((l.length : Int) < (l.length : Int)) = false := by simp
      go_wp2_with fail
      go_ret
      exact ⟨by rw [HF.out]; rfl, rfl⟩
theorem place_q (l : List Im) (s : ByteArray) (z : Int) (hz : placeOf l s = z) (A : Option Addr) (c : Nat) (w : World) (n2 n3 : Nat) (hr : Rds w encI A l) (hm : l.length ≤ 9223372036854775807) :
    Calls Try.prog 33 #[.slice A l.length c, .string s] (w.drewN (n2 + n3)) fun e w' => e = .returned (.int .i64 z) ∧ ∃ n, w' = w.drewN (n2 + n) :=
  (place_any l s A c _ (hr.drewN _) hm).mono fun _ _ h => ⟨by rw [h.1, hz], n3, h.2.symm⟩
theorem has_q (l : List ByteArray) (s : ByteArray) (b : Bool) (hb : hasB l s = b) (A : Option Addr) (c : Nat) (w : World) (n2 n3 : Nat) (hr : Rds w encS A l) (hm : l.length ≤ 9223372036854775807) :
    Calls Try.prog 27 #[.slice A l.length c, .string s] (w.drewN (n2 + n3)) fun e w' => e = .returned (.bool b) ∧ ∃ n, w' = w.drewN (n2 + n) :=
  (has_any l s A c _ (hr.drewN _) hm).mono fun _ _ h => ⟨by rw [h.1, hb], n3, h.2.symm⟩
end Go.Proofs.Ytfaklhdafpbkmaa
