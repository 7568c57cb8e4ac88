/- The order in which they are asked is one. -/
import Derived.Test.YtlhmhcidknadmaaDoorVChoose
namespace Go.Proofs.YtlhmhcidknadmaaDoor
open Go.RowKit

/-- the order in which they are asked is one, where no two have one Id -/
theorem sortV_eq : ∀ {L1 L2 : List Pd}, L1.Perm L2 → (∀ x ∈ L2, ∀ y ∈ L2, x.id = y.id → x = y) → (L1.Pairwise fun x y => vlt y x = false) → (L2.Pairwise fun x y => vlt y x = false) → L1 = L2
  | [], L2, hp, _, _, _ => by rw [List.nil_perm.1 hp]
  | x :: L1, [], hp, _, _, _ => by simp at hp
  | x :: L1, y :: L2, hp, hi, h1, h2 => by
    have hx : x ∈ y :: L2 := hp.subset (by simp)
    have hy : y ∈ x :: L1 := hp.symm.subset (by simp)
    have e : x = y := by
      rcases List.mem_cons.1 hx with h | h
      · exact h
      · rcases List.mem_cons.1 hy with h' | h'
        · exact h'.symm
        · exact hi x hx y (by simp) (vlt_tie ((List.pairwise_cons.1 h2).1 x h) ((List.pairwise_cons.1 h1).1 y h')).2
    subst e
    rw [sortV_eq ((List.perm_cons x).1 hp) (fun a ha b hb => hi a (List.mem_cons_of_mem _ ha) b (List.mem_cons_of_mem _ hb)) (List.pairwise_cons.1 h1).2 (List.pairwise_cons.1 h2).2]
end Go.Proofs.YtlhmhcidknadmaaDoor
