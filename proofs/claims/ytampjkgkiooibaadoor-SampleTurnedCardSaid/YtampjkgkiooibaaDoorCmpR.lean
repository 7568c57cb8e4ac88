/- Comparisons: cmp.Compare, cmp.Or, strings.Compare. -/
import Derived.Test.YtampjkgkiooibaaDoorOrdR
import Derived.Test.YtampjkgkiooibaaDoorShelfC
import Derived.StillTailTactics
import Derived.Lib.Small
namespace Go.Proofs.YtampjkgkiooibaaDoor
open Go.RowKit
open Go.Lib (compareInt compareBytes)

theorem strcmp_any (a b : ByteArray) (w : World) :
    Calls Tryd.prog 32 #[.string a, .string b] w fun e w' => e = .returned (.int .i64 (compareBytes a.data.toList b.data.toList)) ∧ w' = w := Any.strings_Compare Tryd.lays106 a b w

def encZ : Enc Int 1 := ⟨fun n => [.int .i64 n], fun _ => rfl, fun _ u hu => by simp at hu; subst hu; rfl, by decide⟩
/-- the first that is not nought -/
def orOf : List Int → Int
  | [] => 0
  | x :: l => if x = 0 then orOf l else x
theorem orOf_skip (l : List Int) (k : Nat) (hk : k < l.length) (h : l[k] = 0) : orOf (l.drop k) = orOf (l.drop (k + 1)) := by
  rw [List.drop_eq_getElem_cons hk, orOf, if_pos h]
theorem orOf_take (l : List Int) (k : Nat) (hk : k < l.length) (h : l[k] ≠ 0) : orOf (l.drop k) = l[k] := by
  rw [List.drop_eq_getElem_cons hk, orOf, if_neg h]
theorem cmpB_lt : ∀ x y : List UInt8, (Lib.compareBytes x y < 0 ↔ x < y) ∧ (Lib.compareBytes x y = 0 ↔ x = y) := by
  intro x
  induction x with
  | nil => intro y; cases y <;> simp [Lib.compareBytes]
  | cons a x ih =>
    intro y
    cases y with
    | nil => simp [Lib.compareBytes]
    | cons b y =>
      simp only [Lib.compareBytes, List.cons_lt_cons_iff, List.cons.injEq]
      by_cases h1 : a < b
      · have h2 : a ≠ b := by rintro rfl; exact absurd h1 (UInt8.lt_irrefl _)
        simp [h1, h2]
      · by_cases h2 : b < a
        · have h3 : a ≠ b := by rintro rfl; exact absurd h2 (UInt8.lt_irrefl _)
          simp [h1, h2, h3]
        · have h3 : a = b := UInt8.le_antisymm (UInt8.not_lt.1 h2) (UInt8.not_lt.1 h1)
          subst h3
          simp [h1, ih y]
end Go.Proofs.YtampjkgkiooibaaDoor
