/- The plain law: a right pod's bytes are cut to that pod; so unlike right pods have bytes of which none begins the other's. -/
import Derived.Test.YtkpcinkpdonihaaDoorCutAll
namespace Go.Proofs.YtkpcinkpdonihaaDoor
open Go.RowKit

theorem wordTo_getD (n : Int) (t : List UInt8) : ∀ (k j : Nat), j < k → (wordTo n k ++ t).getD j 0 = byteAt n (k - 1 - j)
  | k + 1, 0, _ => by simp [wordTo]
  | k + 1, j + 1, h => by
    have := wordTo_getD n t k j (by omega)
    simp only [wordTo, List.cons_append, List.getD_cons_succ, this]
    congr 1
    omega
theorem be_step (a N : Int) (hN : 0 < N) : 256 * ((a / 256) % N) + a % 256 = a % (N * 256) := by
  have h1 := Int.emod_nonneg (a / 256) (Int.ne_of_gt hN)
  have h2 := Int.emod_lt_of_pos (a / 256) hN
  have h3 := Int.emod_nonneg a (show (256 : Int) ≠ 0 by decide)
  have h4 := Int.emod_lt_of_pos a (show (0 : Int) < 256 by decide)
  have e1 := Int.mul_ediv_add_emod a 256
  have e2 := Int.mul_ediv_add_emod (a / 256) N
  generalize (a / 256) % N = r at *
  generalize (a / 256) / N = q at *
  generalize a % 256 = s at *
  have e3 : a = (256 * r + s) + N * 256 * q := by
    rw [← e1, ← e2, Int.mul_add, ← Int.mul_assoc, Int.mul_comm 256 N]
    omega
  rw [e3, Int.add_mul_emod_self_left, Int.emod_eq_of_lt (by omega) (by omega)]
theorem beTo_word (n : Int) (t : List UInt8) (k : Nat) : ∀ j, j ≤ k → beTo (wordTo n k ++ t) j = (n / (256 ^ (k - j) : Int)) % (256 ^ j : Int)
  | 0, _ => by simp [beTo, Int.emod_one]
  | j + 1, h => by
    have ih := beTo_word n t k j (by omega)
    rw [beTo, wordTo_getD n t k j (by omega), byteAt_nat, ih]
    have e : k - j = (k - (j + 1)) + 1 := by omega
    have e2 : k - 1 - j = k - (j + 1) := by omega
    rw [e, e2, Int.pow_succ, ← Int.ediv_ediv_of_nonneg (by exact Int.le_of_lt (Int.pow_pos (by decide))), be_step _ _ (Int.pow_pos (by decide)), ← Int.pow_succ]
theorem beTo_word8 (n : Int) (h : I64 n) (t : List UInt8) : IntKind.i64.wrap (beTo (word n ++ t) 8) = n := by
  unfold word
  rw [beTo_word n t 8 8 (Nat.le_refl 8), IntKind.wrap_i64]
  unfold I64 at h
  simp
  omega

theorem textOf_text (s : ByteArray) (t : List UInt8) (h : s.size ≤ 255) : textOf (textB s ++ t) = some (s.data.toList, t) := by
  have hl : s.data.toList.length = s.size := rfl
  have hn : (UInt8.ofNat s.size).toNat = s.data.toList.length := by rw [UInt8.toNat_ofNat', hl]; omega
  unfold textB
  rw [List.cons_append]
  simp only [textOf]
  rw [hn, if_pos (by rw [List.length_append]; omega), List.take_left, List.drop_left]
theorem str_self (s : ByteArray) : str s.data.toList = s := rfl
theorem numsTo_drop (p : Pd) : ∀ (m k : Nat) (t : List UInt8), k < m → ∃ u, (p.numsTo m ++ t).drop (8 * k) = word (p.nm k) ++ u
  | m + 1, k, t, h => by
    rw [Pd.numsTo, List.append_assoc]
    by_cases hk : k < m
    · exact numsTo_drop p m k _ hk
    · obtain rfl : k = m := by omega
      exact ⟨t, List.drop_left' (p.numsTo_len k)⟩
theorem accN_nums (p : Pd) (t : List UInt8) (k : Nat) (hk : k < 8) (h : I64 (p.nm k)) : accN (p.numsTo 8 ++ t) k 8 = p.nm k := by
  obtain ⟨u, hu⟩ := numsTo_drop p 8 k t hk
  unfold accN
  rw [hu, beTo_word8 _ h]
theorem cutPd_nums (p : Pd) (hp : p.Wf) (hr : p.right = true) (more : List UInt8) :
    cutPd p.id p.image (p.numsTo 8 ++ (critB p.crit :: more)) = p ∧ ((p.numsTo 8 ++ (critB p.crit :: more)).getD 64 0) = critB p.crit ∧ accN (p.numsTo 8 ++ (critB p.crit :: more)) 0 8 = p.prio + 1073741824 := by
  obtain ⟨h1, h2, _⟩ := p.right_prio hr
  have hl := p.numsTo_len 8
  have hg : (p.numsTo 8 ++ (critB p.crit :: more)).getD 64 0 = critB p.crit := by
    rw [List.getD_eq_getElem?_getD, List.getElem?_append_right (by omega), hl]
    rfl
  have a0 := accN_nums p (critB p.crit :: more) 0 (by omega) (by show I64 (p.prio + 1073741824); unfold I64; omega)
  have a1 := accN_nums p (critB p.crit :: more) 1 (by omega) hp.size
  have a2 := accN_nums p (critB p.crit :: more) 2 (by omega) hp.q0
  have a3 := accN_nums p (critB p.crit :: more) 3 (by omega) hp.q1
  have a4 := accN_nums p (critB p.crit :: more) 4 (by omega) hp.q2
  have a5 := accN_nums p (critB p.crit :: more) 5 (by omega) hp.l0
  have a6 := accN_nums p (critB p.crit :: more) 6 (by omega) hp.l1
  have a7 := accN_nums p (critB p.crit :: more) 7 (by omega) hp.l2
  refine ⟨?_, hg, a0⟩
  unfold cutPd cutPdY
  rw [hg, a0, a1, a2, a3, a4, a5, a6, a7]
  have hc : (((critB p.crit).toNat : Int) == 1) = p.crit := by cases p.crit <;> rfl
  rw [hc]
  obtain ⟨id, pr, cr, q0, q1, q2, l0, l1, l2, im, sz⟩ := p
  simp [Pd.nm]
theorem cut_bytes (p : Pd) (hp : p.Wf) (hr : p.right = true) (more : List UInt8) : cutOf (p.bytes ++ more) = some (p, more) := by
  obtain ⟨hs0, hs1⟩ := p.right_named hr
  obtain ⟨h1, h2, _⟩ := p.right_prio hr
  obtain ⟨e1, e2, e3⟩ := cutPd_nums p hp hr more
  have hl := p.numsTo_len 8
  have eb : p.bytes ++ more = textB p.id ++ (textB p.image ++ (p.numsTo 8 ++ (critB p.crit :: more))) := by
    unfold Pd.bytes
    simp
  have hk : cutOk p.id p.image (p.numsTo 8 ++ (critB p.crit :: more)) = true := by
    unfold cutOk notWide
    rw [e1, e2, e3, hr]
    have : (critB p.crit).toNat ≤ 1 := by cases p.crit <;> decide
    simp only [Bool.and_eq_true, decide_eq_true_eq, Bool.and_true]
    omega
  unfold cutOf
  rw [eb, textOf_text _ _ (by omega)]
  simp only
  rw [textOf_text _ _ (by omega)]
  simp only
  rw [str_self, str_self, if_pos (by rw [List.length_append, hl, List.length_cons]; omega), if_pos hk, e1]
  have hd : (p.numsTo 8 ++ (critB p.crit :: more)).drop 65 = more := by
    rw [List.drop_append, hl, List.drop_of_length_le (by rw [hl]; omega)]
    rfl
  rw [hd]
/-- right pods of which one's bytes begin the other's are one -/
theorem bytes_begin (p q : Pd) (hp : p.Wf) (hq : q.Wf) (hpr : p.right = true) (hqr : q.right = true) (t : List UInt8) (h : q.bytes = p.bytes ++ t) : p = q := by
  have h1 := cut_bytes p hp hpr t
  have h2 := cut_bytes q hq hqr []
  rw [List.append_nil, h, h1] at h2
  injection h2 with h2
  injection h2
end Go.Proofs.YtkpcinkpdonihaaDoor
