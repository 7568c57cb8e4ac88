/- bilgeref21.Has: is a text one of these? -/
import Derived.Test.YtlhmhcidknadmaaGreatDoorVFit
namespace Go.Proofs.YtlhmhcidknadmaaGreatDoor
open Go.RowKit

def hasD (l : List ByteArray) (s : ByteArray) : Bool := l.any fun x => x.toList == s.toList
theorem hasD_snoc (l : List ByteArray) (s : ByteArray) (i : Nat) (hi : i < l.length) (h : hasD (l.take i) s = false) (h2 : (l[i].toList == s.toList) = false) : hasD (l.take (i + 1)) s = false := by
  unfold hasD at *
  rw [List.take_succ_eq_append_getElem hi, List.any_append, h]
  simp only [List.any_cons, List.any_nil, Bool.or_false, Bool.false_or]
  exact h2
theorem hasD_hit (l : List ByteArray) (s : ByteArray) (i : Nat) (hi : i < l.length) (h2 : (l[i].toList == s.toList) = true) : hasD l s = true := List.any_eq_true.2 ⟨l[i], List.getElem_mem hi, h2⟩
set_option maxRecDepth 100000 in
set_option maxHeartbeats 4000000 in
theorem has_any (l : List ByteArray) (s : ByteArray) (A : Option Addr) (c : Nat) (w : World) (hr : Rds w encS A l) (hl : l.length ≤ 9223372036854775807) :
    Calls Tryz.prog 50 #[.slice A l.length c, .string s] w fun e w' => e = .returned (.bool (hasD l s)) ∧ w = w' := by
  have HR := Lib.hid hr
  clear hr
  go_enter Tryz.func50, Tryz.ntmps50
  go_wp2_with fail
  go_loopw [5] (fun ii wr => ∃ i : Nat, i ≤ l.length ∧ ii = .int .i64 i ∧ hasD (l.take i) s = false ∧ wr = w) (fun ii _ => l.length - (intOf ii).toNat)
  case atStart => exact ⟨0, by omega, rfl, rfl, rfl⟩
  case round =>
    obtain ⟨i, hi, rfl, hno, rfl⟩ := hrel
    have HNO := Lib.hid hno
    clear hno
    by_cases hlt : i < l.length
    · have dk : decide ((i : Int) < (l.length : Int)) = true := decide_eq_true (by omega)
      have dk2 : (i : Int) < (l.length : Int) := by omega
      obtain ⟨b, off, rfl, hb0, d0⟩ := HR.out.str hlt
      have HY := Lib.hid (hasD_hit l s i hlt)
      have HN := Lib.hid (hasD_snoc l s i hlt HNO.out)
      generalize l[i] = x at *
      cases he : (x.toList == s.toList)
      · have HN2 := Lib.hid (HN.out he)
        clear HY HN
        go_wp2_with fail
        go_roundw
        case rel => exact ⟨i + 1, by omega, by go_num, HN2.out, by first | rfl | trivial⟩
        case measure => simp [intOf]; omega
      · have HY2 := Lib.hid (HY.out he)
        clear HY HN
        go_wp2_with fail
        go_ret
        exact ⟨ret_bool HY2.out.symm, rfl⟩
    · obtain rfl : i = l.length := by omega
      have dk : decide ((l.length : Int) < (l.length : Int)) = false := by simp
      have HF : Hid (hasD l s = false) := by have := HNO.out; rw [List.take_length] at this; exact this
      go_wp2_with fail
      go_ret
      exact ⟨ret_bool HF.out.symm, rfl⟩
end Go.Proofs.YtlhmhcidknadmaaGreatDoor
