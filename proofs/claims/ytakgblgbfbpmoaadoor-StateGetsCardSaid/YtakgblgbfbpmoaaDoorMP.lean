/- Several texts in one: What is cut is put as it stood: the plain law, the other way round. -/
import Derived.Test.YtakgblgbfbpmoaaDoorMO
namespace Go.Proofs.YtakgblgbfbpmoaaDoor
open Go.RowKit

theorem byte_eq {a b : UInt8} (h : (a.toNat : Int) = b.toNat) : a = b := UInt8.toNat_inj.1 (by omega)
theorem word_be (m : List UInt8) (h : 8 ≤ m.length) : word (IntKind.i64.wrap (beTo m 8)) = m.take 8 := by
  match m, h with
  | b0 :: b1 :: b2 :: b3 :: b4 :: b5 :: b6 :: b7 :: t, _ =>
    have h0 := b0.toNat_lt
    have h1 := b1.toNat_lt
    have h2 := b2.toNat_lt
    have h3 := b3.toNat_lt
    have h4 := b4.toNat_lt
    have h5 := b5.toNat_lt
    have h6 := b6.toNat_lt
    have h7 := b7.toNat_lt
    have e : beTo (b0 :: b1 :: b2 :: b3 :: b4 :: b5 :: b6 :: b7 :: t) 8 = 256 * (256 * (256 * (256 * (256 * (256 * (256 * (256 * 0 + (b0.toNat : Int)) + b1.toNat) + b2.toNat) + b3.toNat) + b4.toNat) + b5.toNat) + b6.toNat) + b7.toNat := rfl
    rw [e, IntKind.wrap_i64]
    generalize hn : ((256 * (256 * (256 * (256 * (256 * (256 * (256 * (256 * 0 + (b0.toNat : Int)) + b1.toNat) + b2.toNat) + b3.toNat) + b4.toNat) + b5.toNat) + b6.toNat) + b7.toNat + 9223372036854775808) % 18446744073709551616 - 9223372036854775808 : Int) = n
    have key : ∀ (k : Nat) (q : Int) (b : UInt8), (256 ^ k : Int) = q → n / q % 256 = b.toNat → byteAt n k = b := fun k q b hq hb => byte_eq (by rw [byteAt_nat, hq, hb])
    show [byteAt n 7, byteAt n 6, byteAt n 5, byteAt n 4, byteAt n 3, byteAt n 2, byteAt n 1, byteAt n 0] = [b0, b1, b2, b3, b4, b5, b6, b7]
    rw [key 7 72057594037927936 b0 (by decide) (by omega), key 6 281474976710656 b1 (by decide) (by omega), key 5 1099511627776 b2 (by decide) (by omega), key 4 4294967296 b3 (by decide) (by omega),
      key 3 16777216 b4 (by decide) (by omega), key 2 65536 b5 (by decide) (by omega), key 1 256 b6 (by decide) (by omega), key 0 1 b7 (by decide) (by omega)]
theorem word_accN (r : List UInt8) (k : Nat) (h : 8 * k + 8 ≤ r.length) : word (accN r k 8) = (r.drop (8 * k)).take 8 := by
  unfold accN
  exact word_be _ (by rw [List.length_drop]; omega)
theorem nm_cutPd (id im : ByteArray) (r : List UInt8) (k : Nat) (h : k < 8) : (cutPd id im r).nm k = accN r k 8 := by
  obtain rfl | rfl | rfl | rfl | rfl | rfl | rfl | rfl : k = 0 ∨ k = 1 ∨ k = 2 ∨ k = 3 ∨ k = 4 ∨ k = 5 ∨ k = 6 ∨ k = 7 := by omega
  · show accN r 0 8 - 1073741824 + 1073741824 = _; omega
  all_goals rfl
theorem numsTo_cutPd (id im : ByteArray) (r : List UInt8) (h : 64 < r.length) : ∀ k, k ≤ 8 → (cutPd id im r).numsTo k = r.take (8 * k) := by
  intro k
  induction k with
  | zero => intro _; rfl
  | succ k ih =>
    intro hk
    rw [Pd.numsTo, ih (by omega), nm_cutPd _ _ _ _ (by omega), word_accN r k (by omega), show 8 * (k + 1) = 8 * k + 8 by omega, List.take_add]
theorem textB_take (x : UInt8) (l : List UInt8) (h : x.toNat ≤ l.length) : textB (str (l.take x.toNat)) ++ l.drop x.toNat = x :: l := by
  unfold textB
  rw [str_size, str_list, List.length_take, Nat.min_eq_left h, List.cons_append, List.take_append_drop]
  congr 1
  exact byte_eq (by rw [UInt8.toNat_ofNat', Nat.mod_eq_of_lt x.toNat_lt])
theorem crit_self (y : UInt8) (h : y.toNat ≤ 1) : critB ((y.toNat : Int) == 1) = y := by
  have h2 : y.toNat = 0 ∨ y.toNat = 1 := by omega
  rcases h2 with h2 | h2
  · rw [h2]; exact byte_eq (by rw [h2]; rfl)
  · rw [h2]; exact byte_eq (by rw [h2]; rfl)
theorem cutPd_wf (id im : ByteArray) (r : List UInt8) (h : (cutPd id im r).right = true) : (cutPd id im r).Wf := by
  obtain ⟨p1, p2, _⟩ := Pd.right_prio _ h
  obtain ⟨n1, n2⟩ := Pd.right_named _ h
  refine ⟨⟨by omega, by omega⟩, accN_I64 _ _ _, accN_I64 _ _ _, accN_I64 _ _ _, accN_I64 _ _ _, accN_I64 _ _ _, accN_I64 _ _ _, accN_I64 _ _ _, by omega, by omega⟩
/-- a right pod's bytes are few -/
theorem Pd.bytes_len_le (p : Pd) (h : p.right = true) : p.bytes.length ≤ 115 ∧ 67 ≤ p.bytes.length := by
  obtain ⟨h1, h2⟩ := p.right_named h
  have e1 : p.id.data.toList.length = p.id.size := rfl
  have e2 : p.image.data.toList.length = p.image.size := rfl
  unfold Pd.bytes textB
  simp only [List.length_append, List.length_cons, List.length_nil, Pd.numsTo_len, e1, e2]
  omega
/-- what is cut is put as it stood -/
theorem cut_put {l rest : List UInt8} {p : Pd} (h : cutOf l = some (p, rest)) : p.Wf ∧ p.right = true ∧ l = p.bytes ++ rest := by
  unfold cutOf at h
  cases h1 : textOf l with
  | none => rw [h1] at h; cases h
  | some q1 =>
    obtain ⟨a, l1⟩ := q1
    rw [h1] at h
    simp only at h
    cases h2 : textOf l1 with
    | none => rw [h2] at h; cases h
    | some q2 =>
      obtain ⟨b, r⟩ := q2
      rw [h2] at h
      simp only at h
      by_cases h3 : 64 < r.length
      · rw [if_pos h3] at h
        by_cases h4 : cutOk (str a) (str b) r = true
        · rw [if_pos h4] at h
          injection h with h
          injection h with e1 e2
          obtain ⟨x, m1, rfl, hx, rfl, rfl⟩ := textOf_some h1
          obtain ⟨y, m2, hm, hy, rfl, rfl⟩ := textOf_some h2
          unfold cutOk at h4
          simp only [Bool.and_eq_true, decide_eq_true_eq] at h4
          obtain ⟨_, hc, hr⟩ := h4
          subst e1
          subst e2
          refine ⟨cutPd_wf _ _ _ hr, hr, ?_⟩
          have ec : critB (cutPd (str (m1.take x.toNat)) (str (m2.take y.toNat)) (m2.drop y.toNat)).crit = (m2.drop y.toNat).getD 64 0 := crit_self _ hc
          unfold Pd.bytes
          rw [numsTo_cutPd _ _ _ h3 8 (Nat.le_refl _), ec]
          have er : (m2.drop y.toNat).take (8 * 8) ++ ([(m2.drop y.toNat).getD 64 0] ++ (m2.drop y.toNat).drop 65) = m2.drop y.toNat := by
            generalize m2.drop y.toNat = r at h3 ⊢
            have hd : [r.getD 64 0] ++ r.drop 65 = r.drop 64 := by
              rw [List.drop_eq_getElem_cons h3, List.getD_eq_getElem?_getD, List.getElem?_eq_getElem h3]; rfl
            rw [hd, show 8 * 8 = 64 from rfl, List.take_append_drop]
          have et : (cutPd (str (m1.take x.toNat)) (str (m2.take y.toNat)) (m2.drop y.toNat)).id = str (m1.take x.toNat) := rfl
          have eu : (cutPd (str (m1.take x.toNat)) (str (m2.take y.toNat)) (m2.drop y.toNat)).image = str (m2.take y.toNat) := rfl
          rw [et, eu]
          simp only [List.append_assoc]
          rw [er, textB_take y m2 hy, ← hm, textB_take x m1 hx]
        · rw [if_neg h4] at h; cases h
      · rw [if_neg h3] at h; cases h
end Go.Proofs.YtakgblgbfbpmoaaDoor
