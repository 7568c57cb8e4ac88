/- Comparisons: cmp.Compare, cmp.Or, strings.Compare. -/
import Derived.Test.YtlhmhcidknadmaaDoorOrdR
import Derived.Test.YtlhmhcidknadmaaDoorShelfC
import Derived.StillTailTactics
import Derived.Lib.Small
namespace Go.Proofs.YtlhmhcidknadmaaDoor
open Go.RowKit
open Go.Lib (compareInt compareBytes)

theorem isNaN_any (x : Int) (w : World) :
    Calls Tryd.prog 56 #[.int .i64 x] w fun e w' => e = .returned (.bool false) ∧ w = w' := by
  go_enter Tryd.func56, Tryd.ntmps56
  go_wp2
  go_ret
  exact ⟨by simp, rfl⟩
theorem compare_any (x y : Int) (w : World) :
    Calls Tryd.prog 42 #[.int .i64 x, .int .i64 y] w fun e w' => e = .returned (.int .i64 (compareInt x y)) ∧ w' = w := by
  unfold compareInt
  go_enter Tryd.func42, Tryd.ntmps42
  go_wp2_with (go_at_call 56; refine (isNaN_any _ _).mono ?_; rintro e w' ⟨rfl, rfl⟩)
  all_goals
    go_ret
    exact ⟨rfl, rfl⟩
theorem strcmp_any (a b : ByteArray) (w : World) :
    Calls Tryd.prog 43 #[.string a, .string b] w fun e w' => e = .returned (.int .i64 (compareBytes a.data.toList b.data.toList)) ∧ w' = w := Any.strings_Compare Tryd.lays106 a b w

def encZ : Enc Int 1 := ⟨fun n => [.int .i64 n], fun _ => rfl, fun _ u hu => by simp at hu; subst hu; rfl, by decide⟩
/-- the first that is not nought -/
def orOf : List Int → Int
  | [] => 0
  | x :: l => if x = 0 then orOf l else x
theorem orOf_skip (l : List Int) (k : Nat) (hk : k < l.length) (h : l[k] = 0) : orOf (l.drop k) = orOf (l.drop (k + 1)) := by
  rw [List.drop_eq_getElem_cons hk, orOf, if_pos h]
theorem orOf_take (l : List Int) (k : Nat) (hk : k < l.length) (h : l[k] ≠ 0) : orOf (l.drop k) = l[k] := by
  rw [List.drop_eq_getElem_cons hk, orOf, if_neg h]
theorem or_any (l : List Int) (A : Option Addr) (c : Nat) (w : World) (hr : Rds w encZ A l) (hm : l.length ≤ 1000) :
    Calls Tryd.prog 41 #[.slice A l.length c] w fun e w' => e = .returned (.int .i64 (orOf l)) ∧ w' = w := by
  have HR := Lib.hid hr
  clear hr
  go_enter Tryd.func41, Tryd.ntmps41
  go_wp2_with fail
  go_loop [8] (fun i => ∃ k : Nat, k ≤ l.length ∧ i = .int .i64 k ∧ orOf l = orOf (l.drop k)) (fun i => l.length - (intOf i).toNat)
  case atStart => exact ⟨0, by omega, rfl, rfl⟩
  case round =>
    obtain ⟨k, hk, rfl, h0⟩ := hrel
    have H0 := Lib.hid h0
    clear h0
    by_cases hlt : k < l.length
    · obtain ⟨b, off, rfl, hb, hcell⟩ := HR.out.at_ hlt
      have hc : w.cell? ⟨b, off + k, none⟩ = some (.int .i64 l[k]) := by have := hcell 0 (.int .i64 l[k]) rfl; simpa using this
      have dk : decide ((k : Int) < (l.length : Int)) = true := decide_eq_true (by omega)
      have dk2 : (k : Int) < (l.length : Int) := by omega
      have HY := Lib.hid (And.intro (orOf_skip l k hlt) (orOf_take l k hlt))
      clear hcell
      generalize l[k] = x at *
      by_cases hx : x = 0
      · have HN := Lib.hid (HY.out.1 hx)
        have dx : (x != 0) = false := by rw [hx]; rfl
        clear hx
        go_wp2_with fail
        go_round
        case rel => exact ⟨k + 1, by omega, by go_num, H0.out.trans HN.out⟩
        case measure => simp [intOf]; omega
      · have HN := Lib.hid (HY.out.2 hx)
        have dx : (x != 0) = true := by rw [bne_iff_ne]; exact hx
        clear hx
        go_wp2_with fail
        go_ret
        exact ⟨ret_int (H0.out.trans HN.out).symm, rfl⟩
    · obtain rfl : k = l.length := by omega
      have HF : Hid (orOf l = 0) := by have := H0.out; rw [List.drop_length] at this; exact this
      have dk : decide ((l.length : Int) < (l.length : Int)) = false := by simp
      go_wp2_with fail
      go_ret
      exact ⟨ret_int HF.out.symm, rfl⟩
theorem cmpB_lt : ∀ x y : List UInt8, (Lib.compareBytes x y < 0 ↔ x < y) ∧ (Lib.compareBytes x y = 0 ↔ x = y) := by
  intro x
  induction x with
  | nil => intro y; cases y <;> simp [Lib.compareBytes]
  | cons a x ih =>
    intro y
    cases y with
    | nil => simp [Lib.compareBytes]
    | cons b y =>
      simp only [Lib.compareBytes, List.cons_lt_cons_iff, List.cons.injEq]
      by_cases h1 : a < b
      · have h2 : a ≠ b := by rintro rfl; exact absurd h1 (UInt8.lt_irrefl _)
        simp [h1, h2]
      · by_cases h2 : b < a
        · have h3 : a ≠ b := by rintro rfl; exact absurd h2 (UInt8.lt_irrefl _)
          simp [h1, h2, h3]
        · have h3 : a = b := UInt8.le_antisymm (UInt8.not_lt.1 h2) (UInt8.not_lt.1 h1)
          subst h3
          simp [h1, ih y]
end Go.Proofs.YtlhmhcidknadmaaDoor
