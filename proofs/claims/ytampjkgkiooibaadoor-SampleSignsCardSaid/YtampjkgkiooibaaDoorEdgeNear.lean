/- Numbers that are whole, or a sixteenth power of two beneath: how they are written, added, divided, and what is read of them. No walk. -/
import Derived.Test.YtampjkgkiooibaaDoorEdgePlain
namespace Go.Proofs.YtampjkgkiooibaaDoor
open Ieee

theorem even_exact (s : Bool) (a u L : Nat) (h : u ≤ L + 2) (hl : (a * 2 ^ u).log2 = L) : Toward.even.cut s (a * 2 ^ u) u = a := by
  have hp : 0 < 2 ^ u := Nat.pow_pos (by decide)
  unfold Toward.cut
  rw [hl, Nat.min_eq_left h]
  simp only [Nat.one_shiftLeft, Nat.mul_mod_left, Nat.mul_div_cancel _ hp]
  have : ¬ 2 ^ u < 2 * 0 := by omega
  simp [this]
theorem even_zero (s : Bool) (a : Nat) : Toward.even.cut s a 0 = a := by
  have := even_exact s a 0 (a.log2) (by omega) (by rw [Nat.pow_zero, Nat.mul_one])
  rwa [Nat.pow_zero, Nat.mul_one] at this
theorem log2_shift {k : Nat} (hk : k ≠ 0) (t : Nat) : (k * 2 ^ t).log2 = k.log2 + t := by
  have hp : 0 < 2 ^ t := Nat.pow_pos (by decide)
  rw [Nat.log2_eq_iff (Nat.mul_ne_zero hk (by omega))]
  have h1 := Nat.log2_self_le hk
  have h2 : k < 2 ^ (k.log2 + 1) := Nat.lt_log2_self
  constructor
  · rw [Nat.pow_add]; exact Nat.mul_le_mul_right _ h1
  · rw [show k.log2 + t + 1 = (k.log2 + 1) + t by omega, Nat.pow_add]; exact Nat.mul_lt_mul_of_pos_right h2 hp
theorem full_bits {k : Nat} (hk : k ≠ 0) (h : k < 9007199254740992) : k.log2 ≤ 52 ∧ 4503599627370496 ≤ k * 2 ^ (52 - k.log2) ∧ k * 2 ^ (52 - k.log2) < 9007199254740992 := by
  have hl53 : k.log2 ≤ 52 := by
    have := (Nat.log2_lt hk (k := 53)).2 (by simpa using h)
    omega
  refine ⟨hl53, ?_, ?_⟩
  · have h1 := Nat.log2_self_le hk
    have h2 := Nat.mul_le_mul_right (2 ^ (52 - k.log2)) h1
    rw [← Nat.pow_add, show k.log2 + (52 - k.log2) = 52 by omega] at h2
    simpa using h2
  · have h1 : k < 2 ^ (k.log2 + 1) := Nat.lt_log2_self
    have h2 := Nat.mul_lt_mul_of_pos_right h1 (Nat.pow_pos (n := 52 - k.log2) (by decide : 0 < 2))
    rw [← Nat.pow_add, show k.log2 + 1 + (52 - k.log2) = 53 by omega] at h2
    simpa using h2
/-- a number that the format has is written as it is -/
theorem nearest_exact (s : Bool) {k : Nat} (t : Nat) {pl : Int} (hk : k ≠ 0) (h : k < 9007199254740992) (h1 : -1022 ≤ pl + k.log2) (h2 : pl + k.log2 ≤ 1000) :
    double.nearest s (k * 2 ^ t) (pl - t) = double.word s ((pl + k.log2 + 1022).toNat * 4503599627370496 + k * 2 ^ (52 - k.log2)) := by
  obtain ⟨f1, f2, f3⟩ := full_bits hk h
  have hp : 0 < 2 ^ t := Nat.pow_pos (by decide)
  have h0 : k * 2 ^ t ≠ 0 := Nat.mul_ne_zero hk (by omega)
  unfold Format.nearest
  rw [if_neg h0]
  simp only [dFB, dLP, dBI, dIR]
  rw [log2_shift hk]
  have e1 : max ((pl - (t : Int)) + ((k.log2 + t : Nat) : Int) - (52 : Nat)) (-1074) = pl + k.log2 - 52 := by omega
  rw [e1]
  have hc : Toward.even.cut s ((k * 2 ^ t) <<< (pl - (t : Int) - (pl + k.log2 - 52)).toNat) ((pl + k.log2 - 52) - (pl - (t : Int))).toNat = k * 2 ^ (52 - k.log2) := by
    by_cases hc : t ≤ 52 - k.log2
    · have e2 : (pl - (t : Int) - (pl + k.log2 - 52)).toNat = 52 - k.log2 - t := by omega
      have e3 : ((pl + k.log2 - 52) - (pl - (t : Int))).toNat = 0 := by omega
      rw [e2, e3, even_zero, Nat.shiftLeft_eq, Nat.mul_assoc, ← Nat.pow_add, show t + (52 - k.log2 - t) = 52 - k.log2 by omega]
    · obtain ⟨u, hu⟩ : ∃ u, t = 52 - k.log2 + u := ⟨t - (52 - k.log2), by omega⟩
      have e2 : (pl - (t : Int) - (pl + k.log2 - 52)).toNat = 0 := by omega
      have e3 : ((pl + k.log2 - 52) - (pl - (t : Int))).toNat = u := by omega
      rw [e2, e3, Nat.shiftLeft_zero, hu, Nat.pow_add, ← Nat.mul_assoc]
      refine even_exact s _ u (k.log2 + t) (by omega) ?_
      rw [Nat.mul_assoc, ← Nat.pow_add, ← hu, log2_shift hk]
  rw [hc]
  have e5 : (pl + k.log2 - 52 - -1074).toNat = (pl + k.log2 + 1022).toNat := by omega
  rw [e5, Nat.min_eq_left (by omega)]
/-- the fields of such a word -/
structure Fields (b : Nat) (s : Bool) (e m : Nat) : Prop where
  lt : b < 18446744073709551616
  sg : sgB b = s
  ex : exN b = e
  fr : frN b = m
theorem word_fields (s : Bool) {e K : Nat} (he : e ≤ 2044) (h1 : 4503599627370496 ≤ K) (h2 : K < 9007199254740992) : Fields (double.word s (e * 4503599627370496 + K)) s (e + 1) (K - 4503599627370496) := by
  unfold Format.word
  rw [dSW]
  cases s
  · refine ⟨by simp only [Bool.false_eq_true, if_false]; omega, ?_, ?_, ?_⟩
    · unfold sgB; simp only [Bool.false_eq_true, if_false]; exact decide_eq_false (by omega)
    · unfold exN; simp only [Bool.false_eq_true, if_false]; omega
    · unfold frN; simp only [Bool.false_eq_true, if_false]; omega
  · refine ⟨by simp only [if_true]; omega, ?_, ?_, ?_⟩
    · unfold sgB; simp only [if_true]; exact decide_eq_true (by omega)
    · unfold exN; simp only [if_true]; omega
    · unfold frN; simp only [if_true]; omega
/-- the word of k * 2^pl -/
def wrd (k : Nat) (pl : Int) : Nat := double.nearest false k pl
theorem wrd_t {k : Nat} (t : Nat) {pl : Int} (hk : k ≠ 0) (h : k < 9007199254740992) (h1 : -1022 ≤ pl + k.log2) (h2 : pl + k.log2 ≤ 1000) : double.nearest false (k * 2 ^ t) (pl - t) = wrd k pl := by
  unfold wrd
  have := nearest_exact false 0 hk h h1 h2
  rw [Nat.pow_zero, Nat.mul_one] at this
  rw [nearest_exact false t hk h h1 h2, ← this]
  simp
theorem wrd_fields {k : Nat} {pl : Int} (hk : k ≠ 0) (h : k < 9007199254740992) (h1 : -1022 ≤ pl + k.log2) (h2 : pl + k.log2 ≤ 1000) : Fields (wrd k pl) false ((pl + k.log2 + 1022).toNat + 1) (k * 2 ^ (52 - k.log2) - 4503599627370496) := by
  have := nearest_exact false 0 hk h h1 h2
  rw [Nat.pow_zero, Nat.mul_one] at this
  unfold wrd
  rw [show pl = pl - ((0 : Nat) : Int) by simp, this]
  obtain ⟨f1, f2, f3⟩ := full_bits hk h
  simpa using word_fields false (by omega) f2 f3
theorem wrd_zero (pl : Int) : wrd 0 pl = 0 := rfl
theorem wrd_read {k : Nat} {pl : Int} (hk : k ≠ 0) (h : k < 9007199254740992) (h1 : -1022 ≤ pl + k.log2) (h2 : pl + k.log2 ≤ 1000) : double.read (wrd k pl) = .number false (k * 2 ^ (52 - k.log2)) (pl + k.log2 - 52) := by
  have hf := wrd_fields hk h h1 h2
  rw [read_dat hf.lt, hf.sg, hf.ex, hf.fr]
  obtain ⟨f1, f2, f3⟩ := full_bits hk h
  unfold datD
  rw [if_neg (by omega), if_pos (by omega)]
  have z1 : 4503599627370496 + (k * 2 ^ (52 - k.log2) - 4503599627370496) = k * 2 ^ (52 - k.log2) := by omega
  have z2 : ((((pl + k.log2 + 1022).toNat + 1 : Nat) : Int)) - 1075 = pl + k.log2 - 52 := by omega
  rw [z1, z2]
/-- as a multiple of a power -/
theorem wrd_num {k : Nat} {q : Nat} (h : k < 9007199254740992) (hq : q ≤ 900) : ∃ u : Nat, double.read (wrd k (-(q : Int))) = .number false (k * 2 ^ u) (-((u + q : Nat) : Int)) := by
  by_cases hk : k = 0
  · subst hk
    refine ⟨1074 - q, ?_⟩
    rw [wrd_zero, show double.read 0 = .number false 0 (-1074) by decide, Nat.zero_mul]
    have : ((1074 - q + q : Nat) : Int) = 1074 := by omega
    rw [this]
  · obtain ⟨f1, f2, f3⟩ := full_bits hk h
    refine ⟨52 - k.log2, ?_⟩
    rw [wrd_read hk h (by omega) (by omega)]
    have : (-(q : Int)) + k.log2 - 52 = -((52 - k.log2 + q : Nat) : Int) := by omega
    rw [this]
theorem wrd_ofInt {n : Nat} : double.write (.number false n 0) = wrd n 0 := rfl
theorem add_exact {n p : Nat} (hn : n < 4294967296) (hp : p < 65536) : double.add (wrd n 0) (wrd p (-16)) = some (wrd (n * 65536 + p) (-16)) := by
  obtain ⟨u, hu⟩ := wrd_num (k := n) (q := 0) (by omega) (by omega)
  obtain ⟨v, hv⟩ := wrd_num (k := p) (q := 16) (by omega) (by omega)
  rw [show (-((0 : Nat) : Int)) = 0 from rfl] at hu
  rw [show (-((16 : Nat) : Int)) = -16 from rfl] at hv
  unfold Format.add
  rw [hu, hv]
  obtain ⟨b, hb⟩ : ∃ b : Nat, b = max u (v + 16) := ⟨_, rfl⟩
  have e1 : min (-((u + 0 : Nat) : Int)) (-((v + 16 : Nat) : Int)) = -(b : Int) := by omega
  have e2 : (-((u + 0 : Nat) : Int) - -(b : Int)).toNat = b - u := by omega
  have e3 : (-((v + 16 : Nat) : Int) - -(b : Int)).toNat = b - (v + 16) := by omega
  have hs : (Datum.number false (n * 2 ^ u) (-((u + 0 : Nat) : Int))).sum (.number false (p * 2 ^ v) (-((v + 16 : Nat) : Int))) = some (.number false ((n * 65536 + p) * 2 ^ (b - 16)) (-(b : Int))) := by
    show some (Datum.number _ _ _) = _
    rw [e1, e2, e3]
    have ht : signed false (n * 2 ^ u) (b - u) + signed false (p * 2 ^ v) (b - (v + 16)) = (((n * 65536 + p) * 2 ^ (b - 16) : Nat) : Int) := by
      unfold signed
      simp only [Bool.false_eq_true, if_false, Nat.shiftLeft_eq]
      rw [← Int.natCast_add]
      congr 1
      rw [Nat.mul_assoc, Nat.mul_assoc, ← Nat.pow_add, ← Nat.pow_add, show u + (b - u) = 16 + (b - 16) by omega, show v + (b - (v + 16)) = b - 16 by omega, Nat.pow_add, ← Nat.mul_assoc, Nat.add_mul]
    rw [ht]
    generalize (n * 65536 + p) * 2 ^ (b - 16) = X
    have h3 : ¬ ((X : Nat) : Int) < 0 := by omega
    have h4 : (if ((X : Nat) : Int) = 0 then (false && false) else decide (((X : Nat) : Int) < 0)) = false := by
      split
      · rfl
      · exact decide_eq_false h3
    rw [h4, Int.natAbs_natCast]
  rw [hs]
  show some (double.nearest false ((n * 65536 + p) * 2 ^ (b - 16)) (-(b : Int))) = _
  by_cases h0 : n * 65536 + p = 0
  · rw [h0, Nat.zero_mul]
    unfold wrd Format.nearest
    rw [if_pos rfl, if_pos rfl]
  · congr 1
    have hl : (n * 65536 + p).log2 ≤ 52 := (full_bits h0 (by omega)).1
    have := wrd_t (b - 16) (pl := -16) h0 (by omega) (by omega) (by omega)
    rwa [show (-16 : Int) - ((b - 16 : Nat) : Int) = -(b : Int) by omega] at this
theorem read_k : double.read 4679240012837945344 = .number false 4503599627370496 (-36) := by
  rw [read_dat (by omega)]
  have e1 : exN 4679240012837945344 = 1039 := by decide
  have e2 : frN 4679240012837945344 = 0 := by decide
  have e3 : sgB 4679240012837945344 = false := by decide
  rw [e1, e2, e3]; rfl
theorem div_exact {p : Nat} (hp : p < 65536) : double.div (wrd p 0) 4679240012837945344 = some (wrd p (-16)) := by
  unfold Format.div
  rw [read_k, dFB]
  by_cases h0 : p = 0
  · subst h0
    rw [wrd_zero, wrd_zero, show double.read 0 = .number false 0 (-1074) by decide]
    unfold Datum.quotient
    simp only [show ¬ (4503599627370496 : Nat) = 0 by decide, if_false, Nat.zero_shiftLeft, Nat.zero_div, Nat.zero_mod, Option.map_some]
    rfl
  · obtain ⟨f1, f2, f3⟩ := full_bits h0 (by omega)
    rw [wrd_read h0 (by omega) (by omega) (by omega)]
    have hl : (p * 2 ^ (52 - p.log2)).log2 = 52 := by rw [log2_shift h0]; omega
    have hq : Datum.quotient (52 + 2) (.number false (p * 2 ^ (52 - p.log2)) (0 + p.log2 - 52)) (.number false 4503599627370496 (-36)) = some (.number false (p * 2 ^ (55 - p.log2)) (-16 - ((55 - p.log2 : Nat) : Int))) := by
      unfold Datum.quotient
      simp only [show ¬ (4503599627370496 : Nat) = 0 by decide, if_false, hl]
      have e1 : 52 + 2 + Nat.log2 4503599627370496 - 52 = 54 := by decide
      rw [e1, Nat.shiftLeft_eq]
      have e2 : p * 2 ^ (52 - p.log2) * 2 ^ 54 = p * 2 ^ (52 - p.log2) * 4 * 4503599627370496 := by rw [Nat.mul_assoc _ 4]
      rw [e2, Nat.mul_div_cancel _ (by decide), Nat.mul_mod_left]
      have e3 : 2 * (p * 2 ^ (52 - p.log2) * 4) + Bool.toNat (0 != 0) = p * 2 ^ (55 - p.log2) := by
        have h8 : p * 2 ^ (55 - p.log2) = p * 2 ^ (52 - p.log2) * 8 := by rw [show 55 - p.log2 = (52 - p.log2) + 3 by omega, Nat.pow_add, Nat.mul_assoc]
        rw [h8]
        generalize p * 2 ^ (52 - p.log2) = X
        have : Bool.toNat ((0 : Nat) != 0) = 0 := rfl
        rw [this]
        omega
      rw [e3]
      congr 2
      omega
    rw [hq]
    show some (double.nearest false _ _) = _
    rw [wrd_t (55 - p.log2) (pl := -16) h0 (by omega) (by omega) (by omega)]
theorem kind_of {b e m : Nat} {s : Bool} (h : Fields b s e m) : kindN b = kindD s e m := by unfold kindN; rw [h.sg, h.ex, h.fr]
theorem read_of {b e m : Nat} {s : Bool} (h : Fields b s e m) : readN b = readD s e m := by unfold readN; rw [h.sg, h.ex, h.fr]
theorem small_read {p : Nat} (hp : p < 65536) : kindN (wrd p (-16)) ≠ 1 ∧ readN (wrd p (-16)) = 0 ∧ wrd p (-16) < 18446744073709551616 := by
  by_cases h0 : p = 0
  · subst h0; decide
  · have hl : p.log2 < 16 := (Nat.log2_lt h0).2 hp
    have hf := wrd_fields (pl := -16) h0 (by omega) (by omega) (by omega)
    rw [kind_of hf, read_of hf]
    unfold readD kindD
    refine ⟨?_, ?_, hf.lt⟩
    · rw [if_neg (by omega), if_neg (by omega)]; decide
    · rw [if_neg (by rw [if_neg (by omega), if_neg (by omega)]; decide), if_neg (by omega), if_pos (by omega)]
theorem both_read {n p : Nat} (hn : n < 4294967296) (hp : p < 65536) : kindN (wrd (n * 65536 + p) (-16)) ≠ 1 ∧ readN (wrd (n * 65536 + p) (-16)) = n ∧ wrd (n * 65536 + p) (-16) < 18446744073709551616 := by
  by_cases hz : n = 0
  · subst hz
    rw [Nat.zero_mul, Nat.zero_add]; exact small_read hp
  · have h0 : n * 65536 + p ≠ 0 := by omega
    have hK : n * 65536 + p < 2 ^ 48 := by omega
    have hl : (n * 65536 + p).log2 < 48 := (Nat.log2_lt h0).2 hK
    have hl2 : ¬ (n * 65536 + p).log2 < 16 := fun h => by
      have := (Nat.log2_lt h0).1 h
      omega
    have hf := wrd_fields (pl := -16) h0 (by omega) (by omega) (by omega)
    obtain ⟨f1, f2, f3⟩ := full_bits h0 (by omega)
    rw [kind_of hf, read_of hf]
    unfold readD kindD
    refine ⟨?_, ?_, hf.lt⟩
    · rw [if_neg (by omega), if_neg (by omega)]; decide
    · rw [if_neg (by rw [if_neg (by omega), if_neg (by omega)]; decide), if_neg (by omega), if_neg (by omega)]
      unfold fixN
      rw [if_pos (by omega)]
      have z1 : (n * 65536 + p) * 2 ^ (52 - (n * 65536 + p).log2) - 4503599627370496 + 4503599627370496 = (n * 65536 + p) * 2 ^ (52 - (n * 65536 + p).log2) := by omega
      have z2 : 1075 - (((-16 : Int) + ((n * 65536 + p).log2 : Nat) + 1022).toNat + 1) = (52 - (n * 65536 + p).log2) + 16 := by omega
      rw [z1, z2, Nat.pow_add, ← Nat.div_div_eq_div_mul, Nat.mul_div_cancel _ (Nat.pow_pos (by decide))]
      have : (n * 65536 + p) / 2 ^ 16 = n := by
        show (n * 65536 + p) / 65536 = n
        omega
      rw [this]
theorem minus_read {n : Nat} (hn : n < 4294967296) : ∀ b, b = 9223372036854775808 + wrd n 0 → kindN b ≠ 1 ∧ readN b = 0 ∧ b < 18446744073709551616 := by
  intro b hb
  by_cases h0 : n = 0
  · subst h0; rw [wrd_zero] at hb; subst hb; decide
  · have hl : n.log2 < 32 := (Nat.log2_lt h0).2 (by omega)
    have hf := wrd_fields (pl := 0) h0 (by omega) (by omega) (by omega)
    have hg : Fields b true ((0 + (n.log2 : Int) + 1022).toNat + 1) (n * 2 ^ (52 - n.log2) - 4503599627370496) := by
      obtain ⟨a1, a2, a3, a4⟩ := hf
      have h9 : wrd n 0 < 9223372036854775808 := by unfold sgB at a2; exact Nat.lt_of_not_le (of_decide_eq_false a2)
      refine ⟨by omega, ?_, ?_, ?_⟩
      · unfold sgB; exact decide_eq_true (by omega)
      · rw [← a3]; unfold exN; omega
      · rw [← a4]; unfold frN; omega
    rw [kind_of hg, read_of hg]
    unfold readD kindD
    refine ⟨?_, ?_, hg.lt⟩
    · rw [if_neg (by omega), if_neg (by omega)]; decide
    · rw [if_pos (by rw [if_neg (by omega), if_neg (by omega)]; decide)]
end Go.Proofs.YtampjkgkiooibaaDoor
