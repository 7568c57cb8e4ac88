/- The plain law of RankMore: who goes ahead still does with more; of two one goes ahead. -/
import Derived.Test.YtlnpmdchhmbblaaRankKeys
namespace Go.Proofs.Ytlnpmdchhmbblaa
open Go.RowKit

theorem ahead_more {k : Int} {a b : Pd} {l l' : List Us} (ha : excess k a l ≤ excess k a l') (hb : excess k b l' = excess k b l) (h : aheadB k a b l = true) : aheadB k a b l' = true := by
  unfold aheadB keyD at *
  rw [klt_iff] at *
  rw [hb]
  generalize excess k a l = p at *
  generalize excess k a l' = p' at *
  generalize excess k b l = q at *
  simp only at *
  cases hB : blt a.id b.id
  all_goals
    simp only [hB, and_true, and_false, or_false, Bool.false_eq_true] at h ⊢
    by_cases h1 : 0 < p
    · by_cases h2 : 0 < q
      · rw [if_pos h1, if_pos h2] at h
        rw [if_pos (show 0 < p' by omega), if_pos h2]
        omega
      · rw [if_pos h1, if_neg h2] at h
        rw [if_pos (show 0 < p' by omega), if_neg h2]
        omega
    · by_cases h2 : 0 < q
      · rw [if_neg h1, if_pos h2] at h
        omega
      · rw [if_neg h1, if_neg h2] at h
        by_cases h3 : 0 < p'
        · rw [if_pos h3, if_neg h2]; omega
        · rw [if_neg h3, if_neg h2]; omega
theorem ahead_total {k : Int} {a b : Pd} {l : List Us} (hne : a.id ≠ b.id) (h : aheadB k a b l = false) : aheadB k b a l = true := by
  cases h2 : aheadB k b a l
  · have e := klt_total h h2
    exact absurd (congrArg Ky.id e) hne
  · rfl
end Go.Proofs.Ytlnpmdchhmbblaa
