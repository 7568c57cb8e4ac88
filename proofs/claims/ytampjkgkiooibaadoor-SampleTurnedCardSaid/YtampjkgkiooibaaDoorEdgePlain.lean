/- A number with a point, by its bits: how it compares with itself, with nought and with 2^63; what its floor is as a whole number. No walk. -/
import Derived.Test.YtampjkgkiooibaaDoorNumPlain
namespace Go.Proofs.YtampjkgkiooibaaDoor
open Ieee

/-- a double's datum, by its three fields -/
def datD (s : Bool) (e m : Nat) : Datum := if e = 0 then .number s m (-1074) else if e < 2047 then .number s (4503599627370496 + m) ((e : Int) - 1075) else if m = 0 then .infinity s else .nan s m
theorem dSW : double.signWeight = 9223372036854775808 := by decide
theorem dBI : double.binade = 4503599627370496 := by decide
theorem dIR : double.infRung = 9218868437227405312 := by decide
theorem dLP : double.leastPlace = -1074 := by decide
theorem dFB : double.fractionBits = 52 := rfl
theorem read_dat {b : Nat} (h : b < 18446744073709551616) : double.read b = datD (sgB b) (exN b) (frN b) := by
  unfold Format.read datD sgB exN frN
  rw [dSW, dBI, dIR, dLP]
  have hs : (b / 9223372036854775808 % 2 == 1) = decide (9223372036854775808 ≤ b) := by
    by_cases h1 : 9223372036854775808 ≤ b
    · rw [decide_eq_true h1]; have : b / 9223372036854775808 % 2 = 1 := by omega
      rw [this]; rfl
    · rw [decide_eq_false h1]; have : b / 9223372036854775808 % 2 = 0 := by omega
      rw [this]; rfl
  simp only [hs]
  have hm : b % 9223372036854775808 % 4503599627370496 = b % 4503599627370496 := by omega
  have he : b % 9223372036854775808 / 4503599627370496 = b / 4503599627370496 % 2048 := by omega
  by_cases h0 : b / 4503599627370496 % 2048 = 0
  · have hr : b % 9223372036854775808 = b % 4503599627370496 := by omega
    have hlt : b % 9223372036854775808 < 4503599627370496 := by omega
    rw [if_pos hlt, if_pos h0, hr]
  · have hlt : ¬ b % 9223372036854775808 < 4503599627370496 := by omega
    rw [if_neg hlt, if_neg h0]
    by_cases h1 : b / 4503599627370496 % 2048 < 2047
    · have hlt : b % 9223372036854775808 < 9218868437227405312 := by omega
      rw [if_pos hlt, if_pos h1, hm, he]
      congr 1
      omega
    · have hlt : ¬ b % 9223372036854775808 < 9218868437227405312 := by omega
      rw [if_neg hlt, if_neg h1]
      by_cases h2 : b % 4503599627370496 = 0
      · have hq : b % 9223372036854775808 = 9218868437227405312 := by omega
        rw [if_pos hq, if_pos h2]
      · have hq : ¬ b % 9223372036854775808 = 9218868437227405312 := by omega
        rw [if_neg hq, if_neg h2]
        have hz : b % 9223372036854775808 - 9218868437227405312 = b % 4503599627370496 := by omega
        rw [hz]
theorem cut_down (n d : Nat) : Toward.down.cut false n d = n / 2 ^ d := by
  unfold Toward.cut
  simp only [Bool.false_and, Bool.toNat_false, Nat.add_zero, Nat.one_shiftLeft]
  by_cases h : d ≤ n.log2 + 2
  · rw [Nat.min_eq_left h]
  · rw [Nat.min_eq_right (by omega)]
    have h1 : n < 2 ^ (n.log2 + 1) := Nat.lt_log2_self
    have h2 : (2 : Nat) ^ (n.log2 + 1) ≤ 2 ^ (n.log2 + 2) := Nat.pow_le_pow_right (by decide) (by omega)
    have h3 : (2 : Nat) ^ (n.log2 + 2) ≤ 2 ^ d := Nat.pow_le_pow_right (by decide) (by omega)
    rw [Nat.div_eq_of_lt (by omega), Nat.div_eq_of_lt (by omega)]
theorem cut_zero (s : Bool) (n d : Nat) : Toward.zero.cut s n d = n / 2 ^ d := by
  have := cut_down n d
  unfold Toward.cut at this ⊢
  simpa using this
/-- a whole number with few digits is written and read back -/
theorem nearest_back {k j : Nat} (hk : k < 9007199254740992) (hj : j = 0 ∨ 4503599627370496 ≤ k) (hh : j ≤ 10) :
    (double.read (double.write (.number false (k * 2 ^ j) 0))).toInt .zero = some ((k * 2 ^ j : Nat) : Int) := by
  show (double.read (double.nearest false (k * 2 ^ j) 0)).toInt .zero = _
  unfold Format.nearest
  have hp : 0 < 2 ^ j := Nat.pow_pos (by decide)
  by_cases h0 : k * 2 ^ j = 0
  · rw [if_pos h0, h0]
    have hw : double.word false 0 = 0 := rfl
    rw [hw, read_dat (by decide)]
    decide
  rw [if_neg h0]
  simp only [dFB, dLP, dBI, dIR]
  have hk0 : k ≠ 0 := fun e => h0 (by rw [e, Nat.zero_mul])
  have hl : (k * 2 ^ j).log2 = k.log2 + j := by
    rw [Nat.log2_eq_iff h0]
    have h1 := Nat.log2_self_le hk0
    have h2 : k < 2 ^ (k.log2 + 1) := Nat.lt_log2_self
    constructor
    · rw [Nat.pow_add]; exact Nat.mul_le_mul_right _ h1
    · rw [show k.log2 + j + 1 = (k.log2 + 1) + j by omega, Nat.pow_add]; exact Nat.mul_lt_mul_of_pos_right h2 hp
  rw [hl]
  have hl53 : k.log2 ≤ 52 := by
    have := (Nat.log2_lt hk0 (k := 53)).2 (by simpa using hk)
    omega
  have hr : ∀ (t : Nat), ∀ kept : Nat, 4503599627370496 ≤ kept → kept < 9007199254740992 → t ≤ 1084 → double.read (double.word false (min (t * 4503599627370496 + kept) 9218868437227405312)) = .number false kept ((t : Int) - 1074) := by
    intro t kept h1 h2 h3
    have h4 : t * 4503599627370496 + kept ≤ 9218868437227405312 := by omega
    rw [Nat.min_eq_left h4]
    have hw : double.word false (t * 4503599627370496 + kept) = t * 4503599627370496 + kept := rfl
    rw [hw, read_dat (by omega)]
    have e1 : exN (t * 4503599627370496 + kept) = t + 1 := by unfold exN; omega
    have e2 : frN (t * 4503599627370496 + kept) = kept - 4503599627370496 := by unfold frN; omega
    have e3 : sgB (t * 4503599627370496 + kept) = false := by unfold sgB; exact decide_eq_false (by omega)
    rw [e1, e2, e3]
    unfold datD
    rw [if_neg (by omega), if_pos (by omega)]
    have z1 : 4503599627370496 + (kept - 4503599627370496) = kept := by omega
    have z2 : ((t + 1 : Nat) : Int) - 1075 = (t : Int) - 1074 := by omega
    rw [z1, z2]
  rcases hj with rfl | hj
  · have e1 : max ((0 : Int) + ((k.log2 + 0 : Nat) : Int) - (52 : Nat)) (-1074) = (k.log2 : Int) - 52 := by omega
    rw [e1]
    have e2 : ((0 : Int) - ((k.log2 : Int) - 52)).toNat = 52 - k.log2 := by omega
    have e3 : (((k.log2 : Int) - 52) - 0).toNat = 0 := by omega
    have e4 : (((k.log2 : Int) - 52) - -1074).toNat = k.log2 + 1022 := by omega
    rw [e2, e3, e4]
    have hc : Toward.even.cut false ((k * 2 ^ 0) <<< (52 - k.log2)) 0 = k * 2 ^ (52 - k.log2) := by
      unfold Toward.cut
      simp [Nat.mod_one, Nat.shiftLeft_eq]
    rw [hc]
    have g1 : 4503599627370496 ≤ k * 2 ^ (52 - k.log2) := by
      have h1 := Nat.log2_self_le hk0
      have h2 := Nat.mul_le_mul_right (2 ^ (52 - k.log2)) h1
      rw [← Nat.pow_add, show k.log2 + (52 - k.log2) = 52 by omega] at h2
      simpa using h2
    have g2 : k * 2 ^ (52 - k.log2) < 9007199254740992 := by
      have h1 : k < 2 ^ (k.log2 + 1) := Nat.lt_log2_self
      have h2 := Nat.mul_lt_mul_of_pos_right h1 (Nat.pow_pos (n := 52 - k.log2) (by decide : 0 < 2))
      rw [← Nat.pow_add, show k.log2 + 1 + (52 - k.log2) = 53 by omega] at h2
      simpa using h2
    rw [hr _ _ g1 g2 (by omega)]
    show some (signed false (Toward.zero.cut false _ _) 0) = _
    rw [cut_zero]
    have e5 : (((k.log2 + 1022 : Nat) : Int) - 1074).toNat = 0 := by omega
    have e6 : (-(((k.log2 + 1022 : Nat) : Int) - 1074)).toNat = 52 - k.log2 := by omega
    rw [e5, e6]
    unfold signed
    simp only [Bool.false_eq_true, if_false, Nat.shiftLeft_zero, Nat.pow_zero, Nat.mul_one]
    rw [Nat.mul_div_cancel _ (Nat.pow_pos (by decide))]
  · have hl52 : k.log2 = 52 := by
      have := (Nat.log2_lt hk0 (k := 52))
      by_cases h : k.log2 < 52
      · have := this.1 h
        omega
      · omega
    rw [hl52]
    have e1 : max ((0 : Int) + ((52 + j : Nat) : Int) - (52 : Nat)) (-1074) = (j : Int) := by omega
    rw [e1]
    have e2 : ((0 : Int) - (j : Int)).toNat = 0 := by omega
    have e3 : ((j : Int) - 0).toNat = j := by omega
    have e4 : ((j : Int) - -1074).toNat = j + 1074 := by omega
    rw [e2, e3, e4]
    have hc : Toward.even.cut false ((k * 2 ^ j) <<< 0) j = k := by
      unfold Toward.cut
      rw [Nat.shiftLeft_zero, hl, hl52, Nat.min_eq_left (by omega)]
      simp only [Nat.one_shiftLeft, Nat.mul_mod_left, Nat.mul_div_cancel _ hp]
      have : ¬ 2 ^ j < 2 * 0 := by omega
      simp [this]
    rw [hc, hr _ _ hj hk (by omega)]
    show some (signed false (Toward.zero.cut false _ _) 0) = _
    rw [cut_zero]
    have e5 : (((j + 1074 : Nat) : Int) - 1074).toNat = j := by omega
    have e6 : (-(((j + 1074 : Nat) : Int) - 1074)).toNat = 0 := by omega
    rw [e5, e6]
    unfold signed
    simp only [Bool.false_eq_true, if_false, Nat.shiftLeft_zero, Nat.pow_zero, Nat.div_one]
    rw [Nat.shiftLeft_eq]

/-- floor and conversion: what is read -/
theorem fix_parts (e m : Nat) (h1 : 1023 ≤ e) (h2 : e < 1086) (hm : m < 4503599627370496) : ∃ k j, fixN e m = k * 2 ^ j ∧ k < 9007199254740992 ∧ (j = 0 ∨ 4503599627370496 ≤ k) ∧ j ≤ 10 := by
  unfold fixN
  by_cases h : e < 1075
  · rw [if_pos h]
    exact ⟨_, 0, (Nat.mul_one _).symm, Nat.lt_of_le_of_lt (Nat.div_le_self _ _) (by omega), .inl rfl, by omega⟩
  · rw [if_neg h]
    exact ⟨_, _, rfl, by omega, .inr (by omega), by omega⟩
theorem floor_of {e m : Nat} (hm : m < 4503599627370496) (h2 : e < 1086) :
    (double.read (double.write ((datD false e m).integral .down))).toInt .zero = some (if e < 1023 then 0 else (fixN e m : Int)) := by
  by_cases h1 : e < 1023
  · rw [if_pos h1]
    have hz : (datD false e m).integral .down = .number false (0 * 2 ^ 0) 0 := by
      unfold datD
      by_cases h3 : e = 0
      · rw [if_pos h3]
        show Datum.number false (Toward.down.cut false _ _) 0 = _
        rw [cut_down]
        have hd : 52 ≤ (-(-1074 : Int)).toNat := by decide
        generalize (-(-1074 : Int)).toNat = d at *
        have : ((-1074 : Int)).toNat = 0 := rfl
        rw [this, Nat.shiftLeft_zero, Nat.div_eq_of_lt (Nat.lt_of_lt_of_le hm (Nat.le_trans (by decide : 4503599627370496 ≤ 2 ^ 52) (Nat.pow_le_pow_right (by decide) hd)))]
      · rw [if_neg h3, if_pos (by omega)]
        show Datum.number false (Toward.down.cut false _ _) 0 = _
        rw [cut_down]
        have e1 : ((e : Int) - 1075).toNat = 0 := by omega
        have e2 : (-((e : Int) - 1075)).toNat = 53 + (1022 - e) := by omega
        rw [e1, e2, Nat.shiftLeft_zero, Nat.div_eq_of_lt]
        have : (2 : Nat) ^ 53 ≤ 2 ^ (53 + (1022 - e)) := Nat.pow_le_pow_right (by decide) (by omega)
        have : (2 : Nat) ^ 53 = 9007199254740992 := by decide
        omega
    rw [hz, nearest_back (by decide) (.inl rfl) (by decide)]
    rfl
  · rw [if_neg h1]
    have hz : (datD false e m).integral .down = .number false (fixN e m) 0 := by
      unfold datD fixN
      rw [if_neg (by omega), if_pos (by omega)]
      show Datum.number false (Toward.down.cut false _ _) 0 = _
      rw [cut_down, Nat.add_comm 4503599627370496 m]
      by_cases h : e < 1075
      · have e1 : ((e : Int) - 1075).toNat = 0 := by omega
        have e2 : (-((e : Int) - 1075)).toNat = 1075 - e := by omega
        rw [if_pos h, e1, e2, Nat.shiftLeft_zero]
      · have e1 : ((e : Int) - 1075).toNat = e - 1075 := by omega
        have e2 : (-((e : Int) - 1075)).toNat = 0 := by omega
        rw [if_neg h, e1, e2, Nat.pow_zero, Nat.div_one, Nat.shiftLeft_eq]
    rw [hz]
    obtain ⟨k, j, hf, a, b, c⟩ := fix_parts e m (by omega) h2 hm
    rw [hf]
    exact nearest_back a b c
/-- comparisons -/
theorem order_self (b : Nat) (h : b < 18446744073709551616) : double.order b b = if kindN b = 1 then none else some .eq := by
  unfold Format.order kindN
  rw [read_dat h]
  have hm := exN_lt b
  generalize sgB b = s
  generalize exN b = e at *
  generalize frN b = m
  unfold datD kindD
  by_cases h0 : e = 0
  · subst h0
    simp only [if_true]
    cases s <;> by_cases hm0 : m = 0 <;> simp [hm0, Datum.order]
  · rw [if_neg h0]
    by_cases h1 : e < 2047
    · rw [if_pos h1, if_neg (by omega)]
      cases s <;> simp [Datum.order]
    · have : e = 2047 := by omega
      subst this
      by_cases hm0 : m = 0
      · subst hm0; cases s <;> simp [Datum.order]
      · have : 0 < m := by omega
        cases s <;> simp [hm0, this, Datum.order]
theorem order_zero (b : Nat) (h : b < 18446744073709551616) : double.order b 0 = if kindN b = 1 then none else if kindN b ≤ 3 then some .lt else if kindN b ≤ 5 then some .eq else some .gt := by
  unfold Format.order kindN
  rw [read_dat h, show double.read 0 = .number false 0 (-1074) by decide]
  have hm := exN_lt b
  generalize sgB b = s
  generalize exN b = e at *
  generalize frN b = m
  have sg : ∀ (s : Bool) (n : Nat) (u : Nat), compare (signed s n u) (signed false 0 0) = if n = 0 then .eq else if s = true then .lt else .gt := by
    intro s n u
    unfold signed
    have hp : 0 < 2 ^ u := Nat.pow_pos (by decide)
    rw [Nat.shiftLeft_eq]
    by_cases hn : n = 0
    · subst hn; cases s <;> simp
    · have hq : 0 < n * 2 ^ u := Nat.mul_pos (by omega) hp
      rw [if_neg hn]
      cases s
      · simp only [Bool.false_eq_true, if_false, Nat.zero_shiftLeft]
        exact Int.compare_eq_gt.2 (by show ((0 : Nat) : Int) < _; exact Int.ofNat_lt.2 hq)
      · simp only [if_true, Bool.false_eq_true, if_false, Nat.zero_shiftLeft]
        exact Int.compare_eq_lt.2 (by omega)
  unfold datD kindD
  by_cases h0 : e = 0
  · subst h0
    simp only [if_true]
    show some (compare (signed s m ((-1074 : Int) - min (-1074) (-1074)).toNat) (signed false 0 ((-1074 : Int) - min (-1074) (-1074)).toNat)) = _
    have : ((-1074 : Int) - min (-1074) (-1074)).toNat = 0 := by decide
    rw [this, sg]
    cases s <;> by_cases hm0 : m = 0 <;> simp [hm0]
  · rw [if_neg h0]
    by_cases h1 : e < 2047
    · rw [if_pos h1, if_neg (by omega)]
      show some (compare (signed s _ (((e : Int) - 1075) - min ((e : Int) - 1075) (-1074)).toNat) (signed false 0 ((-1074 : Int) - min ((e : Int) - 1075) (-1074)).toNat)) = _
      have : ((-1074 : Int) - min ((e : Int) - 1075) (-1074)).toNat = 0 := by omega
      rw [this, sg]
      have h2 : e ≠ 2047 := by omega
      cases s <;> simp [h0, h2]
    · have : e = 2047 := by omega
      subst this
      by_cases hm0 : m = 0
      · subst hm0; cases s <;> simp [Datum.order]
      · have : 0 < m := by omega
        cases s <;> simp [hm0, this, Datum.order]
/-- against 2^63, of a number above nought -/
theorem order_most (b : Nat) (h : b < 18446744073709551616) (hk : 6 ≤ kindN b) : double.order b 4890909195324358656 = if exN b < 1086 then some .lt else if exN b = 1086 ∧ frN b = 0 then some .eq else some .gt := by
  have hs : sgB b = false := by
    unfold kindN kindD at hk
    cases hsb : sgB b
    · rfl
    · rw [hsb] at hk
      split at hk
      · split at hk
        · omega
        · simp at hk
      · split at hk <;> simp at hk
  have hz : ¬ (exN b = 2047 ∧ 0 < frN b) := by
    intro hc
    unfold kindN kindD at hk
    rw [if_pos hc.1, if_pos hc.2] at hk
    omega
  unfold Format.order
  rw [read_dat h, hs, show double.read 4890909195324358656 = .number false 4503599627370496 11 by decide]
  have hm := exN_lt b
  have hf := frN_lt b
  generalize exN b = e at *
  generalize frN b = m at *
  unfold datD
  have hp : ∀ u, 0 < 2 ^ u := fun u => Nat.pow_pos (by decide)
  by_cases h0 : e = 0
  · subst h0
    rw [if_pos rfl, if_pos (by omega)]
    show some (compare (signed false m ((-1074 : Int) - min (-1074) 11).toNat) (signed false 4503599627370496 ((11 : Int) - min (-1074) 11).toNat)) = _
    have e1 : ((-1074 : Int) - min (-1074) 11).toNat = 0 := by decide
    generalize ((11 : Int) - min (-1074) 11).toNat = u at *
    rw [e1]
    unfold signed
    simp only [Bool.false_eq_true, if_false, Nat.shiftLeft_eq]
    have hx : m * 2 ^ 0 < 4503599627370496 * 2 ^ u := Nat.lt_of_lt_of_le (by rw [Nat.pow_zero, Nat.mul_one]; exact hf) (Nat.le_mul_of_pos_right _ (hp _))
    rw [Int.compare_eq_lt.2 (Int.ofNat_lt.2 hx)]
  · rw [if_neg h0]
    by_cases h1 : e < 2047
    · rw [if_pos h1]
      show some (compare (signed false _ (((e : Int) - 1075) - min ((e : Int) - 1075) 11).toNat) (signed false 4503599627370496 ((11 : Int) - min ((e : Int) - 1075) 11).toNat)) = _
      unfold signed
      simp only [Bool.false_eq_true, if_false, Nat.shiftLeft_eq]
      by_cases h2 : e < 1086
      · rw [if_pos h2]
        have e1 : (((e : Int) - 1075) - min ((e : Int) - 1075) 11).toNat = 0 := by omega
        have e2 : ((11 : Int) - min ((e : Int) - 1075) 11).toNat = 1 + (1085 - e) := by omega
        rw [e1, e2, Nat.pow_zero, Nat.mul_one, Nat.pow_add]
        have hx : 4503599627370496 + m < 4503599627370496 * (2 ^ 1 * 2 ^ (1085 - e)) := by
          rw [← Nat.mul_assoc]
          exact Nat.lt_of_lt_of_le (by omega) (Nat.le_mul_of_pos_right _ (hp _))
        rw [Int.compare_eq_lt.2 (Int.ofNat_lt.2 hx)]
      · rw [if_neg h2]
        have e1 : (((e : Int) - 1075) - min ((e : Int) - 1075) 11).toNat = e - 1086 := by omega
        have e2 : ((11 : Int) - min ((e : Int) - 1075) 11).toNat = 0 := by omega
        rw [e1, e2, Nat.pow_zero, Nat.mul_one]
        by_cases h3 : e = 1086 ∧ m = 0
        · rw [if_pos h3, h3.1, h3.2]; rfl
        · rw [if_neg h3]
          have hx : 4503599627370496 < (4503599627370496 + m) * 2 ^ (e - 1086) := ?_
          · rw [Int.compare_eq_gt.2 (Int.ofNat_lt.2 hx)]
          by_cases h4 : e = 1086
          · rw [h4, Nat.sub_self, Nat.pow_zero, Nat.mul_one]
            have : m ≠ 0 := fun h => h3 ⟨h4, h⟩
            omega
          · rw [show e - 1086 = 1 + (e - 1087) by omega, Nat.pow_add, ← Nat.mul_assoc]
            exact Nat.lt_of_lt_of_le (by omega) (Nat.le_mul_of_pos_right _ (hp _))
    · have : e = 2047 := by omega
      subst this
      have : m = 0 := by omega
      subst this
      rfl
theorem neg_xor {b : Nat} (h : b < 18446744073709551616) : b ^^^ 2 ^ 63 = if 9223372036854775808 ≤ b then b - 9223372036854775808 else b + 9223372036854775808 := by
  have h1 := Nat.xor_mod_two_pow (a := b) (b := 2 ^ 63) (n := 63)
  have h2 : (b ^^^ 2 ^ 63) / 2 ^ 63 = (b / 2 ^ 63) ^^^ (2 ^ 63 / 2 ^ 63) := Nat.xor_div_two_pow
  rw [Nat.mod_self, Nat.xor_zero] at h1
  rw [Nat.div_self (by decide)] at h2
  have e : (2 : Nat) ^ 63 = 9223372036854775808 := by decide
  rw [e] at h1 h2 ⊢
  generalize b ^^^ 9223372036854775808 = c at *
  by_cases hb : 9223372036854775808 ≤ b
  · have h3 : b / 9223372036854775808 = 1 := by omega
    rw [h3] at h2
    have h4 : (1 : Nat) ^^^ 1 = 0 := by decide
    rw [h4] at h2
    rw [if_pos hb]; omega
  · have h3 : b / 9223372036854775808 = 0 := by omega
    rw [h3] at h2
    have h4 : (0 : Nat) ^^^ 1 = 1 := by decide
    rw [h4] at h2
    rw [if_neg hb]; omega
theorem neg_fields {b : Nat} (h : b < 18446744073709551616) : (b ^^^ 2 ^ 63) < 18446744073709551616 ∧ sgB (b ^^^ 2 ^ 63) = !sgB b ∧ exN (b ^^^ 2 ^ 63) = exN b ∧ frN (b ^^^ 2 ^ 63) = frN b := by
  rw [neg_xor h]
  unfold sgB exN frN
  by_cases hb : 9223372036854775808 ≤ b
  · rw [if_pos hb]
    refine ⟨by omega, ?_, by omega, by omega⟩
    rw [decide_eq_true hb]; exact decide_eq_false (by omega)
  · rw [if_neg hb]
    refine ⟨by omega, ?_, by omega, by omega⟩
    rw [decide_eq_false hb]; exact decide_eq_true (by omega)
theorem kind_neg {b : Nat} (h : b < 18446744073709551616) : (kindN (b ^^^ 2 ^ 63) == 7) = (kindN b == 2) := by
  obtain ⟨_, e1, e2, e3⟩ := neg_fields h
  unfold kindN kindD
  rw [e1, e2, e3]
  have hm := exN_lt b
  generalize exN b = e at *
  generalize frN b = m at *
  cases sgB b <;> by_cases h1 : e = 2047 <;> by_cases h2 : e = 0 <;> by_cases h3 : m = 0 <;> by_cases h4 : 0 < m <;> simp [h1, h2, h3, h4] <;> omega
/-- against the greatest number -/
theorem order_max {b : Nat} (h : b < 18446744073709551616) : (double.order b 9218868437227405311 == some .gt) = (kindN b == 7) := by
  unfold Format.order kindN
  rw [read_dat h, show double.read 9218868437227405311 = .number false 9007199254740991 971 by rw [read_dat (by omega)]; decide]
  have hm := exN_lt b
  have hf := frN_lt b
  generalize sgB b = s at *
  generalize exN b = e at *
  generalize frN b = m at *
  have key : ∀ (x y : Nat) (i : Int), x ≤ 9007199254740991 → -1074 ≤ i → i ≤ 971 → ((some (compare (signed s x (i - min i 971).toNat) (signed false 9007199254740991 ((971 : Int) - min i 971).toNat)) : Option Ordering) == some .gt) = false := by
    intro x y i hx h1 h2
    have e1 : (i - min i 971).toNat = 0 := by omega
    rw [e1]
    generalize ((971 : Int) - min i 971).toNat = u
    unfold signed
    simp only [Bool.false_eq_true, if_false, Nat.shiftLeft_eq, Nat.pow_zero, Nat.mul_one]
    have hp : x ≤ 9007199254740991 * 2 ^ u := Nat.le_trans hx (Nat.le_mul_of_pos_right _ (Nat.pow_pos (by decide)))
    generalize 9007199254740991 * 2 ^ u = X at *
    have hle : (if s = true then -((x : Nat) : Int) else ((x : Nat) : Int)) ≤ ((X : Nat) : Int) := by cases s <;> simp <;> omega
    cases hc : compare (if s = true then -((x : Nat) : Int) else ((x : Nat) : Int)) ((X : Nat) : Int)
    · rfl
    · rfl
    · have := Int.compare_eq_gt.1 hc
      omega
  unfold datD kindD
  by_cases h0 : e = 0
  · subst h0
    rw [if_pos rfl, if_neg (by omega)]
    have := key m 0 (-1074) (by omega) (by omega) (by omega)
    refine Eq.trans this ?_
    cases s <;> by_cases hm0 : m = 0 <;> simp [hm0]
  · rw [if_neg h0]
    by_cases h1 : e < 2047
    · rw [if_pos h1, if_neg (by omega)]
      have := key (4503599627370496 + m) 0 ((e : Int) - 1075) (by omega) (by omega) (by omega)
      refine Eq.trans this ?_
      cases s <;> simp [h0]
    · have : e = 2047 := by omega
      subst this
      by_cases hm0 : m = 0
      · subst hm0; cases s <;> simp [Datum.order] <;> rfl
      · have : 0 < m := by omega
        cases s <;> simp [hm0, this, Datum.order]
theorem kind_cases (b : Nat) : kindN b = 1 ∨ kindN b = 2 ∨ kindN b = 3 ∨ kindN b = 4 ∨ kindN b = 5 ∨ kindN b = 6 ∨ kindN b = 7 := by
  unfold kindN kindD
  split
  · split
    · simp
    · split <;> simp
  · split
    · split <;> simp
    · split <;> simp
theorem sign_of {b : Nat} (h : kindN b = 4 ∨ kindN b = 5) : sgB b = (kindN b == 4) := by
  unfold kindN kindD at *
  cases hs : sgB b <;> rw [hs] at h <;> revert h <;> by_cases h1 : exN b = 2047 <;> by_cases h2 : exN b = 0 <;> by_cases h3 : frN b = 0 <;> by_cases h4 : 0 < frN b <;> simp [h1, h2, h3, h4]
end Go.Proofs.YtampjkgkiooibaaDoor
