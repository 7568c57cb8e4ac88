/- Numbers as eight bytes: the reference's word. -/
import Derived.Test.YtkpcinkpdonihaaDoorSat
import Derived.RegionTactic
namespace Go.Proofs.YtkpcinkpdonihaaDoor
open Go.RowKit

/-- the k-th byte of a number, from the lowest on -/
def byteAt (n : Int) (k : Nat) : UInt8 := UInt8.ofNat ((n / (256 ^ k : Int)) % 256).toNat
/-- its lowest k bytes, the highest of them first -/
def wordTo (n : Int) : Nat → List UInt8
  | 0 => []
  | k + 1 => byteAt n k :: wordTo n k
theorem wordTo_len (n : Int) (k : Nat) : (wordTo n k).length = k := by
  induction k with
  | zero => rfl
  | succ k ih => rw [wordTo, List.length_cons, ih]
def word (n : Int) : List UInt8 := wordTo n 8
theorem byteAt_nat (n : Int) (k : Nat) : ((byteAt n k).toNat : Int) = (n / (256 ^ k : Int)) % 256 := by
  unfold byteAt
  have h1 : 0 ≤ (n / (256 ^ k : Int)) % 256 := Int.emod_nonneg _ (by decide)
  have h2 : (n / (256 ^ k : Int)) % 256 < 256 := Int.emod_lt_of_pos _ (by decide)
  rw [UInt8.toNat_ofNat']
  omega

/-- what is left of a number, as a uint64, when k bytes are gone -/
def left64 (n : Int) (k : Nat) : Int := n % 18446744073709551616 / 256 ^ k
theorem left64_bd (n : Int) (k : Nat) : 0 ≤ left64 n k ∧ left64 n k ≤ 18446744073709551615 := by
  unfold left64
  have h0 : 0 ≤ n % 18446744073709551616 := Int.emod_nonneg _ (by decide)
  have h1 : n % 18446744073709551616 < 18446744073709551616 := Int.emod_lt_of_pos _ (by decide)
  have hp : (0 : Int) < 256 ^ k := Int.pow_pos (by decide)
  refine ⟨Int.ediv_nonneg h0 (Int.le_of_lt hp), ?_⟩
  have := Int.ediv_le_self (256 ^ k) h0
  omega
theorem left64_succ (n : Int) (k : Nat) : left64 n k / 256 = left64 n (k + 1) := by
  unfold left64
  rw [Int.ediv_ediv, if_neg (by have : (0 : Int) < 256 ^ k := Int.pow_pos (by decide); omega), Int.pow_succ]; omega
theorem left64_zero (n : Int) : left64 n 0 = n % 18446744073709551616 := by simp [left64]
theorem left64_byte (n : Int) (k : Nat) (hk : k < 8) : left64 n k % 256 = ((byteAt n k).toNat : Int) := by
  rw [byteAt_nat]
  unfold left64
  obtain rfl | rfl | rfl | rfl | rfl | rfl | rfl | rfl : k = 0 ∨ k = 1 ∨ k = 2 ∨ k = 3 ∨ k = 4 ∨ k = 5 ∨ k = 6 ∨ k = 7 := by omega
  all_goals omega

theorem elemB : Elem Tryd.prog 22 5 1 1 := by
  obtain ⟨i, h1, h2, h3, h4⟩ := info_parts (show (Tryd.prog.info? 5).map (fun i => (i.zero, i.size, i.bytes)) = some (some (.int .u8 0), 1, 1) by kernel_rfl)
  exact ⟨Tryd.underlying22, i, _, h1, h2, h3, h4, rfl⟩
theorem elemB_zero : ∀ i, Tryd.prog.info? 5 = some i → i.zero = some (.int .u8 0) := by
  obtain ⟨i, h1, h2, h3, h4⟩ := info_parts (show (Tryd.prog.info? 5).map (fun i => (i.zero, i.size, i.bytes)) = some (some (.int .u8 0), 1, 1) by kernel_rfl)
  intro j hj
  rw [h1] at hj
  cases hj
  exact h2

set_option maxHeartbeats 1000000 in
theorem refWord_any (n : Int) (w : World) (hn : I64 n) :
    Calls Tryd.prog 17 #[.int .i64 n] w fun e w' => ∃ A c, e = .returned (.slice A (word n).length c) ∧ Own w' w.heap.size 5 encB (.slice A (word n).length c) (word n) ∧ Below w.heap.size w w' := by
  obtain ⟨hn1, hn2⟩ := hn
  have hz := left64_zero n
  have hw : IntKind.u64.wrap n = left64 n 0 := by rw [hz]; simp [IntKind.wrap, IntKind.bits, IntKind.signed]
  clear hz
  go_enter Tryd.func17, Tryd.ntmps17
  go_wp2
  go_loopw [3, 4, 5] (fun o x i wr => ∃ (k : Nat) (A : Option Addr) (c : Nat), k ≤ 8 ∧ i = .int .i64 k ∧ x = .int .u64 (left64 n k) ∧ o = .slice A (wordTo n k).length c ∧
      Own wr w.heap.size 5 encB (.slice A (wordTo n k).length c) (wordTo n k) ∧ Below w.heap.size w wr) (fun _ _ i _ => 8 - (intOf i).toNat)
  case atStart => exact ⟨0, none, 0, by omega, rfl, rfl, rfl, Own.nil_ _ _ _ _, Below.refl _ _⟩
  case round =>
    obtain ⟨k, A, c, hk, rfl, rfl, rfl, hown, hbel⟩ := hrel
    have hx := left64_bd n k
    obtain ⟨hx1, hx2⟩ := hx
    by_cases hlt : k < 8
    · have hsz := hbel.size
      have hb := Lib.hid (left64_byte n k hlt)
      have hs := Lib.hid (left64_succ n k)
      have hmade := Own.made wr w.heap.size 5 encB [byteAt n k] #[.int .u8 (left64 n k % 256)] (by rw [hb.out, encB_all]; rfl) hsz (by simp)
      have hrd := (hown.toRds).alloc (.cells #[.int .u8 (left64 n k % 256)] 5)
      have hl := wordTo_len n k
      have HL := Lib.hid hl
      clear hl
      have H := Lib.hid (And.intro hmade hrd)
      clear hmade hrd
      go_wp2_with (at_builtin; refine wl_app elemB encB rfl (.tmp 15) (.tmp 16) rfl w.heap.size _ [byteAt n k] rfl H.out.1 A (wordTo n k) c rfl H.out.2 (by rw [HL.out]; simp; omega) (by rw [HL.out]; simp; omega) (by simp; omega) ?_; intro A' c' w1 hown1 hgrow1 _)
      have el : [byteAt n k].length + (wordTo n k).length = (wordTo n (k + 1)).length := by simp [wordTo, Nat.add_comm]
      rw [el] at hown1
      have EL := Lib.hid el
      clear el
      go_roundw
      case rel => exact ⟨k + 1, A', c', by omega, by go_num, by rw [← hs.out], by rw [← EL.out]; rfl, hown1, H.out.1.belowGrown (hbel.alloc hsz _) hgrow1 (Nat.le_refl _) (by simp; omega)⟩
      case measure => simp [intOf]; omega
    · obtain rfl : k = 8 := by omega
      go_wp2
      go_ret
      exact ⟨A, c, rfl, hown, hbel⟩
end Go.Proofs.YtkpcinkpdonihaaDoor
