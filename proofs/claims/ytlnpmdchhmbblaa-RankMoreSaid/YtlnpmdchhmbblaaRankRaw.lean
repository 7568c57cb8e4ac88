/- What is read of a right raw sample serves the rank: sorted, short, and no excess overflows. No walk. -/
import Derived.Test.YtlnpmdchhmbblaaRead17
import Derived.Test.YtlnpmdchhmbblaaRankAwake
namespace Go.Proofs.Ytlnpmdchhmbblaa
open Go.RowKit

/-- what a rank needs of the uses -/
structure UsOk (k : Int) (us : List Us) : Prop where
  s : SortedU us
  len : us.length ≤ 100000
  ex : ∀ p : Pd, p.Wf → p.right = true → ExOk k p us
theorem Us.Ok.amt {x : Us} (h : x.Ok) (k : Int) : 0 ≤ amt k x ∧ amt k x ≤ 9223372036854775807 := by
  obtain ⟨a, b, c, d, e, f⟩ := h
  unfold Go.Proofs.Ytlnpmdchhmbblaa.amt
  split
  · omega
  · split <;> omega
theorem asked_bd0 {p : Pd} (h : p.Wf) (hr : p.right = true) (k : Int) : 0 ≤ asked p k ∧ asked p k ≤ 9223372036854775807 := by
  have h1 := h.q1.2; have h2 := h.q2.2
  unfold Pd.right Pd.amountsOk bad at hr
  simp at hr
  unfold asked
  split
  · omega
  · split <;> omega
theorem distinctG_of {l : List Ug} (h : OkTo l l.length) : distinctG l := by
  unfold distinctG
  rw [List.pairwise_iff_getElem]
  intro i j hi hj hij
  exact (h j hj hj).d i hij
theorem usOk_raw {r : Rw} (h : RightR r) (k : Int) : UsOk k (readUses r.uses) := by
  refine ⟨sortedP_iff.1 (readUses_sorted (distinctG_of h.ok)), ?_, fun p hp hr => ?_⟩
  · rw [readUses_len]; have := h.len; omega
  · have h1 := (usOf_ok (fun x hx => readUses_ok hx) p.id : (usOf (readUses r.uses) p.id).Ok).amt k
    have h2 := asked_bd0 hp hr k
    exact ⟨by unfold excess; omega, by unfold excess; omega⟩
/-! ### the order of two -/
theorem ahead_self (k : Int) (a : Pd) (us : List Us) : aheadB k a a us = false := klt_irrefl _
theorem ahead_flip {k : Int} {a b : Pd} {us : List Us} (h : a.id ≠ b.id) : aheadB k b a us = !aheadB k a b us := by
  unfold aheadB
  cases h1 : klt (keyD k a us) (keyD k b us)
  · cases h2 : klt (keyD k b us) (keyD k a us)
    · have e := klt_total h1 h2
      exact absurd (congrArg Ky.id e) h
    · rfl
  · cases h2 : klt (keyD k b us) (keyD k a us)
    · rfl
    · have := klt_trans h1 h2; rw [klt_irrefl] at this; cases this
theorem ahead_trans {k : Int} {a b c : Pd} {us : List Us} (h1 : aheadB k a b us = true) (h2 : aheadB k b c us = true) : aheadB k a c us = true := klt_trans h1 h2
end Go.Proofs.Ytlnpmdchhmbblaa
