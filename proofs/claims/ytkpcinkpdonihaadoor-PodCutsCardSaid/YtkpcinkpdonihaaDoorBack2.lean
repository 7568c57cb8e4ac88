/- The plain law: what is cut off stays, whatever is laid behind; so no beginning of a right pod's bytes is cut to a pod. -/
import Derived.Test.YtkpcinkpdonihaaDoorBack
namespace Go.Proofs.YtkpcinkpdonihaaDoor
open Go.RowKit

theorem textOf_more {l a r : List UInt8} (t : List UInt8) (h : textOf l = some (a, r)) : textOf (l ++ t) = some (a, r ++ t) := by
  obtain ⟨x, l1, rfl, hx, rfl, rfl⟩ := textOf_some h
  rw [List.cons_append]
  simp only [textOf]
  rw [if_pos (by rw [List.length_append]; omega), List.take_append_of_le_length hx, List.drop_append_of_le_length hx]
theorem beTo_more (l t : List UInt8) : ∀ j, j ≤ l.length → beTo (l ++ t) j = beTo l j
  | 0, _ => rfl
  | j + 1, h => by
    rw [beTo, beTo, beTo_more l t j (by omega), List.getD_eq_getElem?_getD, List.getD_eq_getElem?_getD, List.getElem?_append_left (by omega)]
theorem accN_more (r t : List UInt8) (k : Nat) (h : 8 * k + 8 ≤ r.length) : accN (r ++ t) k 8 = accN r k 8 := by
  unfold accN
  rw [List.drop_append_of_le_length (by omega), beTo_more _ _ _ (by rw [List.length_drop]; omega)]
theorem cutPd_more (a b : ByteArray) (r t : List UInt8) (h : 64 < r.length) : cutPd a b (r ++ t) = cutPd a b r ∧ cutOk a b (r ++ t) = cutOk a b r := by
  have hg : (r ++ t).getD 64 0 = r.getD 64 0 := by rw [List.getD_eq_getElem?_getD, List.getD_eq_getElem?_getD, List.getElem?_append_left (by omega)]
  have e : cutPd a b (r ++ t) = cutPd a b r := by
    unfold cutPd cutPdY
    rw [hg, accN_more r t 0 (by omega), accN_more r t 1 (by omega), accN_more r t 2 (by omega), accN_more r t 3 (by omega), accN_more r t 4 (by omega), accN_more r t 5 (by omega), accN_more r t 6 (by omega), accN_more r t 7 (by omega)]
  refine ⟨e, ?_⟩
  unfold cutOk notWide
  rw [hg, e, accN_more r t 0 (by omega)]
theorem cut_more {l rest : List UInt8} {p : Pd} (t : List UInt8) (h : cutOf l = some (p, rest)) : cutOf (l ++ t) = some (p, rest ++ t) := by
  unfold cutOf at h ⊢
  cases h1 : textOf l with
  | none => rw [h1] at h; cases h
  | some q1 =>
    obtain ⟨a, l1⟩ := q1
    rw [h1] at h
    simp only at h
    cases h2 : textOf l1 with
    | none => rw [h2] at h; cases h
    | some q2 =>
      obtain ⟨b, r⟩ := q2
      rw [h2] at h
      simp only at h
      by_cases h3 : 64 < r.length
      · rw [if_pos h3] at h
        by_cases h4 : cutOk (str a) (str b) r = true
        · rw [if_pos h4] at h
          injection h with h
          injection h with e1 e2
          obtain ⟨g1, g2⟩ := cutPd_more (str a) (str b) r t h3
          rw [textOf_more t h1]
          simp only
          rw [textOf_more t h2]
          simp only
          rw [if_pos (by rw [List.length_append]; omega), g2, if_pos h4, g1, List.drop_append_of_le_length (by omega), e1, e2]
        · rw [if_neg h4] at h; cases h
      · rw [if_neg h3] at h; cases h
/-- no true beginning of a right pod's bytes is cut -/
theorem cut_begin (p : Pd) (hp : p.Wf) (hr : p.right = true) (n : Nat) (hn : n < p.bytes.length) : cutOf (p.bytes.take n) = none := by
  cases h : cutOf (p.bytes.take n) with
  | none => rfl
  | some x =>
    obtain ⟨q, rest⟩ := x
    have h2 := cut_more (p.bytes.drop n) h
    have h3 := cut_bytes p hp hr []
    rw [List.append_nil] at h3
    rw [List.take_append_drop, h3] at h2
    injection h2 with h2
    injection h2 with _ e
    have := congrArg List.length e
    rw [List.length_append, List.length_drop, List.length_nil] at this
    omega
end Go.Proofs.YtkpcinkpdonihaaDoor
