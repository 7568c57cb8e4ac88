/- pod.text: a text cut off; the reference's number. -/
import Derived.Test.YtkpcinkpdonihaaDoorBytes
import Derived.BigQuiet
import Derived.Deep.QuietTactic
namespace Go.Proofs.YtkpcinkpdonihaaDoor
open Go.RowKit

/-- a text and what is left, where there is one -/
def textOf : List UInt8 → Option (List UInt8 × List UInt8)
  | [] => none
  | c :: l => if c.toNat ≤ l.length then some (l.take c.toNat, l.drop c.toNat) else none

theorem text_nil (A : Option Addr) (c : Nat) (w : World) :
    Calls Tryd.prog 13 #[.slice A 0 c] w fun e w' => e = .returned (.tuple #[.string ⟨#[]⟩, .slice none 0 0, .bool false]) ∧ w = w' := by
  go_enter Tryd.func13, Tryd.ntmps13
  go_wp2
  go_ret3
  exact ⟨rfl, rfl⟩

theorem text_no (x : UInt8) (l : List UInt8) (A : Option Addr) (c : Nat) (w : World) (hr : Rds w encB A (x :: l)) (hx : l.length < x.toNat) :
    Calls Tryd.prog 13 #[.slice A (x :: l).length c] w fun e w' => e = .returned (.tuple #[.string ⟨#[]⟩, .slice none 0 0, .bool false]) ∧ w = w' := by
  obtain ⟨b, off, rfl, hb, hcell⟩ := hr (by simp)
  have h0 : w.cell? ⟨b, off, none⟩ = some (.int .u8 x.toNat) := by have := hcell 0 (.int .u8 x.toNat) (by rw [encB_all]; rfl); simpa using this
  simp only [List.length_cons]
  have hx255 : (x.toNat : Int) ≤ 255 := by have := x.toNat_lt; omega
  have hz : (((l.length : Int) + 1 == 0)) = false := by rw [beq_eq_false_iff_ne]; omega
  have hlt : (0 : Int) < (l.length : Int) + 1 := by omega
  have hd : decide ((l.length : Int) + 1 ≤ (x.toNat : Int)) = true := decide_eq_true (by omega)
  clear hcell hr
  go_enter Tryd.func13, Tryd.ntmps13
  go_wp2
  go_ret3
  exact ⟨rfl, rfl⟩

def TextPost (A : Option Addr) (l0 l1 l2 : List UInt8) (w : World) (e : Ending) (w' : World) : Prop :=
  ∃ A' c', e = .returned (.tuple #[.string (str l1), .slice A' l2.length c', .bool true]) ∧ (∀ v : World, Rds v encB A l0 → Rds v encB A' l2) ∧ l2.length ≤ c' ∧ c' ≤ 9223372036854775807 ∧ w' = w.drew

theorem text_yes (x : UInt8) (l : List UInt8) (A : Option Addr) (c : Nat) (w : World) (hr : Rds w encB A (x :: l)) (hc : (x :: l).length ≤ c) (hm : c ≤ 9223372036854775807) (hx : x.toNat ≤ l.length) :
    Calls Tryd.prog 13 #[.slice A (x :: l).length c] w (TextPost A (x :: l) (l.take x.toNat) (l.drop x.toNat) w) := by
  have hcut : ∀ v : World, Rds v encB A (x :: l) → Rds v encB (if c = x.toNat + 1 then A else A.map (·.add ((x.toNat + 1) * 1))) ((x :: l).drop (x.toNat + 1)) := fun v hv => hv.drop (x.toNat + 1) c hc
  have hstr := (hr.drop 1 c hc).take x.toNat
  obtain ⟨b, off, rfl, hb, hcell⟩ := hr (by simp)
  have h0 : w.cell? ⟨b, off, none⟩ = some (.int .u8 x.toNat) := by have := hcell 0 (.int .u8 x.toNat) (by rw [encB_all]; rfl); simpa using this
  simp only [List.length_cons] at hc ⊢
  have hx255 : (x.toNat : Int) ≤ 255 := by have := x.toNat_lt; omega
  have hz : (((l.length : Int) + 1 == 0)) = false := by rw [beq_eq_false_iff_ne]; omega
  have hlt : (0 : Int) < (l.length : Int) + 1 := by omega
  have hd : decide ((l.length : Int) + 1 ≤ (x.toNat : Int)) = false := decide_eq_false (by omega)
  clear hcell hr
  have ecut : (if c = x.toNat + 1 then some (⟨b, off, none⟩ : Addr) else (some (⟨b, off, none⟩ : Addr)).map (·.add ((x.toNat + 1) * 1))) = (if c = x.toNat + 1 then some ⟨b, off, none⟩ else some ⟨b, off + (x.toNat + 1), none⟩) := by
    split <;> simp [add_mk]
  have estr : (if c = 1 then some (⟨b, off, none⟩ : Addr) else (some (⟨b, off, none⟩ : Addr)).map (·.add (1 * 1))) = (if c = 1 then some ⟨b, off, none⟩ else some ⟨b, off + 1, none⟩) := by
    split <;> simp [add_mk]
  rw [ecut] at hcut
  rw [estr] at hstr
  have el : ((x :: l).drop 1).take x.toNat = l.take x.toNat := rfl
  rw [el] at hstr
  have ed : (x :: l).drop (x.toNat + 1) = l.drop x.toNat := rfl
  rw [ed] at hcut
  have hconv := run_strB w.drew _ _ (c - 1) hstr.drew
  rw [List.length_take, Nat.min_eq_left hx] at hconv
  have HC := Lib.hid hcut
  clear hcut hstr ecut estr el ed
  go_enter Tryd.func13, Tryd.ntmps13
  go_wp2
  have f1 : (1 : Int) ≤ (x.toNat : Int) + 1 := by omega
  have f2 : (x.toNat : Int) + 1 ≤ (c : Int) := by omega
  have f3 : (x.toNat : Int) + 1 ≤ (l.length : Int) + 1 := by omega
  have f4 : ((x.toNat : Int) + 1).toNat = x.toNat + 1 := by omega
  have f5 : (0 : Int) ≤ (x.toNat : Int) + 1 := by omega
  have f6 : x.toNat + 1 ≤ c := by omega
  go_region
  generalize (if c = x.toNat + 1 then some (⟨b, off, none⟩ : Addr) else some ⟨b, off + (x.toNat + 1), none⟩) = A' at HC ⊢
  generalize (if c = 1 then some (⟨b, off, none⟩ : Addr) else some ⟨b, off + 1, none⟩) = A1
  clear hconv
  go_wp2
  go_ret3
  exact ⟨A', c - (x.toNat + 1), by rw [List.length_drop]; rfl, HC.out, by rw [List.length_drop]; omega, by omega, rfl⟩

/-- eight bytes' number: the first of them above 127: -1 -/
def beTo (l : List UInt8) : Nat → Int
  | 0 => 0
  | k + 1 => 256 * beTo l k + ((l.getD k 0).toNat : Int)
def numberOf (l : List UInt8) : Int := if 127 < (l.getD 0 0).toNat then -1 else beTo l 8
theorem beTo_bd (l : List UInt8) (k : Nat) : 0 ≤ beTo l k ∧ beTo l k < 256 ^ k := by
  induction k with
  | zero => simp [beTo]
  | succ k ih =>
    have hb := (l.getD k 0).toNat_lt
    rw [beTo, Int.pow_succ]
    omega
theorem beTo_small (l : List UInt8) (h : (l.getD 0 0).toNat ≤ 127) (k : Nat) (hk : k < 8) : beTo l (k + 1) ≤ 9223372036854775807 ∧ beTo l (k + 1) < 128 * 256 ^ k := by
  have key : ∀ k, beTo l (k + 1) < 128 * 256 ^ k := by
    intro k
    induction k with
    | zero => simp [beTo]; simp at h; omega
    | succ k ih =>
      have hb := (l.getD (k + 1) 0).toNat_lt
      rw [beTo, Int.pow_succ]
      omega
  refine ⟨?_, key k⟩
  have := key k
  obtain rfl | rfl | rfl | rfl | rfl | rfl | rfl | rfl : k = 0 ∨ k = 1 ∨ k = 2 ∨ k = 3 ∨ k = 4 ∨ k = 5 ∨ k = 6 ∨ k = 7 := by omega
  all_goals omega

theorem number_neg (l : List UInt8) (A : Option Addr) (c : Nat) (w : World) (hr : Rds w encB A l) (hl : l.length = 8) (h : 127 < (l.getD 0 0).toNat) :
    Calls Tryd.prog 15 #[.slice A 8 c] w fun e w' => e = .returned (.int .i64 (numberOf l)) ∧ w = w' := by
  obtain ⟨b, off, rfl, hb, hcell⟩ := hr (by intro e; subst e; simp at hl)
  have h0 : w.cell? ⟨b, off, none⟩ = some (.int .u8 (l.getD 0 0).toNat) := by
    have := hcell 0 (.int .u8 (l.getD 0 0).toNat) (by rw [encB_all]; simp [List.getD, List.getElem?_eq_getElem (show 0 < l.length by omega)])
    simpa using this
  have hn : numberOf l = -1 := by unfold numberOf; rw [if_pos h]
  have h' : (127 : Int) < (l.getD 0 0).toNat := by omega
  rw [hn]
  generalize (l.getD 0 0) = x at *
  clear hcell hr h
  go_enter Tryd.func15, Tryd.ntmps15
  go_wp2
  go_ret
  exact ⟨rfl, rfl⟩

set_option maxHeartbeats 1000000 in
theorem number_pos (l : List UInt8) (A : Option Addr) (c : Nat) (w : World) (hr : Rds w encB A l) (hl : l.length = 8) (h : (l.getD 0 0).toNat ≤ 127) :
    Calls Tryd.prog 15 #[.slice A 8 c] w fun e w' => e = .returned (.int .i64 (numberOf l)) ∧ w = w' := by
  obtain ⟨b, off, rfl, hb, hcell⟩ := hr (by intro e; subst e; simp at hl)
  have hc : ∀ i, i < 8 → w.cell? ⟨b, off + i, none⟩ = some (.int .u8 (l.getD i 0).toNat) := fun i hi =>
    hcell i _ (by rw [encB_all]; simp [List.getD, List.getElem?_eq_getElem (show i < l.length by omega)])
  have hn : numberOf l = beTo l 8 := by unfold numberOf; rw [if_neg (by omega)]
  have h0 := hc 0 (by omega)
  rw [Nat.add_zero] at h0
  have HC := Lib.hid hc
  have HS := Lib.hid (beTo_small l h)
  have hb7 : ((l.getD 0 0).toNat : Int) ≤ 127 := by omega
  obtain ⟨x0, hx0⟩ : ∃ x0, x0 = l.getD 0 0 := ⟨_, rfl⟩
  rw [← hx0] at h0 hb7
  rw [hn]
  clear hc hcell hr h hx0 hn
  go_enter Tryd.func15, Tryd.ntmps15
  go_wp2
  go_loop [3, 4] (fun n i => ∃ k : Nat, k ≤ 8 ∧ i = .int .i64 k ∧ n = .int .i64 (beTo l k)) (fun _ i => 8 - (intOf i).toNat)
  case atStart => exact ⟨0, by omega, rfl, rfl⟩
  case round =>
    obtain ⟨k, hk, rfl, rfl⟩ := hrel
    by_cases hlt : k < 8
    · have ck := HC.out k hlt
      have hb1 := (beTo_bd l k).1
      have hb2 := (HS.out k hlt).1
      have hy := (l.getD k 0).toNat_lt
      have hst : beTo l (k + 1) = 256 * beTo l k + ((l.getD k 0).toNat : Int) := rfl
      rw [hst] at hb2
      have hb3 : 256 * beTo l k ≤ 9223372036854775807 := by omega
      generalize l.getD k 0 = y at *
      have HST := Lib.hid hst
      clear hst
      go_wp2
      go_round
      case rel => exact ⟨k + 1, by omega, by go_num, by rw [HST.out]⟩
      case measure => simp [intOf]; omega
    · obtain rfl : k = 8 := by omega
      go_wp2
      go_ret
      exact ⟨rfl, rfl⟩

theorem number_calls (l : List UInt8) (A : Option Addr) (c : Nat) (w : World) (hr : Rds w encB A l) (hl : l.length = 8) :
    Calls Tryd.prog 15 #[.slice A 8 c] w fun e w' => e = .returned (.int .i64 (numberOf l)) ∧ w = w' := by
  by_cases h : 127 < (l.getD 0 0).toNat
  · exact number_neg l A c w hr hl h
  · exact number_pos l A c w hr hl (by omega)
end Go.Proofs.YtkpcinkpdonihaaDoor
