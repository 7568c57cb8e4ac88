/- Names: the program's pod.Named and the reference's bilgeref12.Named give named. -/
import Derived.Test.YtkpcinkpdonihaaDoorSat
import Derived.WalkKit
import Derived.WalkSpells
import Derived.WalkLawsBesides
import Derived.Lib.Hide
import Derived.Test.YtkpcinkpdonihaaDoorShelf
namespace Go.Proofs.YtkpcinkpdonihaaDoor
open Go.RowKit Go.Shelf Go.Lib

/-- a sign of a name -/
def sign (c : UInt8) : Bool := (97 ≤ c && c ≤ 122) || ((48 ≤ c && c ≤ 57) || c == 45)
/-- a name -/
def named (l : List UInt8) : Bool := decide (1 ≤ l.length) && decide (l.length ≤ 24) && l.all sign
def signs : List UInt8 := [97, 98, 99, 100, 101, 102, 103, 104, 105, 106, 107, 108, 109, 110, 111, 112, 113, 114, 115, 116, 117, 118, 119, 120, 121, 122, 48, 49, 50, 51, 52, 53, 54, 55, 56, 57, 45]

theorem contains_signs (c : UInt8) : signs.contains c = sign c := by
  revert c
  have h : ∀ n, n < 256 → signs.contains (UInt8.ofNat n) = sign (UInt8.ofNat n) := by decide +kernel
  intro c
  have := h c.toNat (UInt8.toNat_lt c)
  simpa using this

theorem dropWhile_nil {p : UInt8 → Bool} (l : List UInt8) : l.dropWhile p = [] ↔ ∀ x ∈ l, p x = true := by
  induction l with
  | nil => simp
  | cons a l ih =>
    rw [List.dropWhile_cons]
    by_cases h : p a = true
    · rw [if_pos h, ih]; simp [h]
    · rw [if_neg h]; simp [h]

theorem trim_nil (l : List UInt8) : (Lib.trimS l signs = []) ↔ l.all sign = true := by
  have e : (fun x => signs.contains x) = sign := funext contains_signs
  unfold Lib.trimS Lib.trimLeftS Lib.trimRightS
  rw [e, dropWhile_nil, List.all_eq_true]
  constructor
  · intro h x hx
    by_cases hx2 : x ∈ (List.dropWhile sign l.reverse).reverse
    · exact h x hx2
    · have h2 : List.dropWhile sign l.reverse = [] := by
        rcases hd : List.dropWhile sign l.reverse with _ | ⟨a, t⟩
        · rfl
        · have ha := h a (by rw [hd]; simp)
          have := List.head_dropWhile_not (p := sign) (l := l.reverse) (by rw [hd]; simp)
          simp only [hd, List.head_cons] at this
          rw [ha] at this; cases this
      rw [dropWhile_nil] at h2
      exact h2 x (by simpa using hx)
  · intro h x hx
    refine h x ?_
    have : x ∈ l.reverse := (List.dropWhile_sublist _).subset (by simpa using hx)
    simpa using this

theorem trim_str (s : ByteArray) : ((⟨(Lib.trimS s.data.toList signs).toArray⟩ : ByteArray).toList.isEmpty) = s.data.toList.all sign := by
  rw [Bool.eq_iff_iff, ← trim_nil]
  simp [ByteArray.toList_eq]

set_option maxHeartbeats 1000000 in
theorem named_any (s : ByteArray) (w : World) (hs : s.size ≤ 9223372036854775807) :
    Calls Tryd.prog 11 #[.string s] w fun e w' => e = .returned (.bool (named s.data.toList)) ∧ Below w.heap.size w w' := by
  have hlen : s.data.toList.length = s.size := rfl
  have hcon := Any.strings_Trim_laid Tryd.lays160 (by kernel_rfl) s ⟨signs.toArray⟩ w hs (by decide) (ascii_of_all (by decide))
  change Calls Tryd.prog 18 _ _ (fun e w' => e = .returned (.string ⟨(Lib.trimS s.data.toList signs).toArray⟩) ∧ Below w.heap.size w w') at hcon
  have htr := trim_str s
  by_cases h1 : 1 ≤ s.size
  · by_cases h2 : s.size ≤ 24
    · have hn : named s.data.toList = s.data.toList.all sign := by unfold named; simp [hlen, h1, h2]
      rw [hn, ← htr]
      generalize (⟨(Lib.trimS s.data.toList signs).toArray⟩ : ByteArray) = r at hcon ⊢
      clear htr hn
      have H := Lib.hid hcon
      clear hcon
      go_enter Tryd.func11, Tryd.ntmps11
      go_wp2_with fail
      refine (H.out).mono ?_; rintro e w' ⟨rfl, hB⟩
      go_wp2
      go_ret
      exact ⟨rfl, hB⟩
    · have hn : named s.data.toList = false := by unfold named; simp [hlen, h2]
      rw [hn]
      clear htr hcon hn
      go_enter Tryd.func11, Tryd.ntmps11
      go_wp2
      go_ret
      exact ⟨rfl, Below.refl _ _⟩
  · have hn : named s.data.toList = false := by unfold named; simp [hlen, h1]
    rw [hn]
    clear htr hcon hn
    go_enter Tryd.func11, Tryd.ntmps11
    go_wp2
    go_ret
    exact ⟨rfl, Below.refl _ _⟩
end Go.Proofs.YtkpcinkpdonihaaDoor
namespace Go.Proofs.YtkpcinkpdonihaaDoor
open Go.RowKit Go.Shelf Go.Lib

theorem take_snoc (s : ByteArray) (k : Nat) (h : k < s.size) : s.data.toList.take (k + 1) = s.data.toList.take k ++ [s[k]] := by
  rw [List.take_succ_eq_append_getElem (by simpa using h)]; rfl

/-- one sign's test, in the numbers that the walk shows -/
theorem sign_iff (c : UInt8) : sign c = true ↔ ((97 : Int) ≤ c.toNat ∧ (c.toNat : Int) ≤ 122) ∨ ((48 : Int) ≤ c.toNat ∧ (c.toNat : Int) ≤ 57) ∨ (c.toNat : Int) = 45 := by
  unfold sign
  simp [UInt8.le_iff_toNat_le, ← UInt8.toNat_inj]
  omega

theorem named_of (l : List UInt8) : (decide (1 ≤ l.length) && decide (l.length ≤ 24) && l.all sign) = named l := rfl

theorem named_no (s : ByteArray) (k : Nat) (h : k < s.size) (hs : sign s[k] = false) : named s.data.toList = false := by
  have : s.data.toList.all sign = false := by
    rw [List.all_eq_false]
    exact ⟨s[k], by simp [ByteArray.getElem_eq_getElem_data], by simpa using hs⟩
  unfold named; rw [this]; simp

theorem named_yes (s : ByteArray) (h : (s.data.toList.take s.size).all sign = true) : named s.data.toList = (decide (1 ≤ s.size) && decide (s.size ≤ 24)) := by
  have hl : s.data.toList.length = s.size := rfl
  rw [List.take_of_length_le (by omega)] at h
  unfold named; rw [h, hl]; simp

set_option maxHeartbeats 1000000 in
theorem refNamed_any (s : ByteArray) (w : World) (hs : s.size ≤ 9223372036854775807) :
    Calls Tryd.prog 20 #[.string s] w fun e w' => e = .returned (.bool (named s.data.toList)) ∧ w = w' := by
  go_enter Tryd.func20, Tryd.ntmps20
  go_wp2
  go_loop [3] (fun i => ∃ k : Nat, k ≤ s.size ∧ i = .int .i64 k ∧ (s.data.toList.take k).all sign = true) (fun i => s.size - (RowKit.intOf i).toNat)
  case atStart => exact ⟨0, Nat.zero_le _, rfl, rfl⟩
  case round =>
    obtain ⟨k, hk, rfl, hall⟩ := hrel
    have A := Lib.hid hall
    clear hall
    by_cases hlt : k < s.size
    · by_cases hc : sign s[k] = true
      · have hT := take_snoc s k hlt
        have H : Hid ((s.data.toList.take (k + 1)).all sign = true) := by
          show (s.data.toList.take (k + 1)).all sign = true
          rw [hT, List.all_append, A.out]; simpa using hc
        clear hT
        rw [sign_iff] at hc
        rcases hc with ⟨h1, h2⟩ | ⟨h1, h2⟩ | h1
        all_goals
          go_wp2
          go_round
          case rel => exact ⟨k + 1, by omega, by go_num, H.out⟩
          case measure => simp [RowKit.intOf]; omega
      · have hn := named_no s k hlt (by simpa using hc)
        have hc' : ¬ (((97 : Int) ≤ s[k].toNat ∧ (s[k].toNat : Int) ≤ 122) ∨ ((48 : Int) ≤ s[k].toNat ∧ (s[k].toNat : Int) ≤ 57) ∨ (s[k].toNat : Int) = 45) := by rw [← sign_iff]; exact hc
        have HN := Lib.hid hn
        clear hn hc
        have h45 : (((s[k].toNat : Int)) == 45) = false := by rw [beq_eq_false_iff_ne]; omega
        rcases (show (122 : Int) < s[k].toNat ∨ ((57 : Int) < s[k].toNat ∧ (s[k].toNat : Int) < 97) ∨ (s[k].toNat : Int) < 48 by omega) with h1 | ⟨h1, h2⟩ | h1
        · have d1 : decide ((s[k].toNat : Int) ≤ 122) = false := decide_eq_false (by omega)
          have d2 : decide ((s[k].toNat : Int) ≤ 57) = false := decide_eq_false (by omega)
          clear hc'
          go_wp2
          go_ret
          exact ⟨ret_bool HN.out.symm, rfl⟩
        · have d2 : decide ((s[k].toNat : Int) ≤ 57) = false := decide_eq_false (by omega)
          clear hc'
          go_wp2
          go_ret
          exact ⟨ret_bool HN.out.symm, rfl⟩
        · clear hc'
          go_wp2
          go_ret
          exact ⟨ret_bool HN.out.symm, rfl⟩
    · have HN := Lib.hid (named_yes s (by rw [show s.size = k by omega]; exact A.out))
      go_wp2
      all_goals go_ret
      · exact ⟨ret_bool (by rw [HN.out, decide_eq_true (by omega : 1 ≤ s.size), Bool.true_and]; congr 1; simp; omega), rfl⟩
      · exact ⟨ret_bool (by rw [HN.out, decide_eq_false (by omega : ¬ 1 ≤ s.size)]; rfl), rfl⟩
end Go.Proofs.YtkpcinkpdonihaaDoor
