/- What VictimMinimal asks, of who goes. -/
import Derived.Test.YtlhmhcidknadmaaDoorVWho
import Derived.Test.YtlhmhcidknadmaaDoorVWithout
namespace Go.Proofs.YtlhmhcidknadmaaDoor
open Go.RowKit

structure MinD (room : S3) (p : Pd) (l : List Pd) (O : List ByteArray) : Prop where
  a : fitsB room (leftD O l ++ [p]) = true
  b : (leftD O l ++ [p]).length + O.length = l.length + 1
  c : ∀ i (h : i + 1 < O.length), blt (O[i]'(by omega)) O[i + 1] = true
  d : ∀ i (_ : i < O.length), ∃ k, ∃ hk : k < l.length, l[k].id = O[i]
  e : ∀ k (hk : k < l.length), l[k].id ∈ O → p.crit = true ∧ l[k].crit = false ∧ l[k].prio < p.prio ∧ fitsB room ((leftD O l ++ [p]) ++ [l[k]]) = false
theorem mayV_iff {p v : Pd} (h : mayV p v = true) : p.crit = true ∧ v.crit = false ∧ v.prio < p.prio := by
  unfold mayV at h
  simp only [Bool.and_eq_true, Bool.not_eq_true', decide_eq_true_eq] at h
  exact h
theorem minD {room : S3} {p : Pd} {l : List Pd} {O : List ByteArray} (hF : FitV room l p) (h : WhoD room p l O true) : MinD room p l O := by
  obtain ⟨K, hk, hs, hf, h1, _⟩ := h
  obtain ⟨ho, hos⟩ := h1 rfl
  obtain ⟨G, e1, e2, e3, e4, e5⟩ := chooseD_over room K (stayD p l)
  have hp : ((chooseD room (stayD p l) K).1 ++ G).Perm (l ++ [p]) := e2.trans ((hk.append_left _).trans (stay_ask p l))
  have hGm : ∀ g ∈ G, g ∈ l ∧ mayV p g = true := fun g hg => List.mem_filter.1 (hk.subset (e3.subset hg))
  have hpg : p ∉ G := fun hg => by
    have := (mayV_iff (hGm p hg).2).2.2
    omega
  have hO : ∀ s, s ∈ O ↔ s ∈ G.map Pd.id := fun s => by rw [ho.mem_iff, e1]
  have left := left_perm hF.injP hF.nodupP hp hpg O hO
  have hGn : (G.map Pd.id).Nodup := by
    have h2 : ((askD p l).map Pd.id).Nodup := hF.ids.sublist (List.filter_sublist.map _)
    have h3 : (K.map Pd.id).Nodup := (hk.map _).nodup_iff.2 h2
    exact h3.sublist (e3.map _)
  have hOn : O.Nodup := ho.nodup_iff.2 (by rw [e1]; exact hGn)
  refine ⟨?_, ?_, ?_, ?_, ?_⟩
  · rw [show fitsB room (leftD O l ++ [p]) = fitsB room (chooseD room (stayD p l) K).1 from fitsB_perm left]
    exact e4 hf
  · have h2 : (leftD O l ++ [p]).length = (chooseD room (stayD p l) K).1.length := left.length_eq
    have h3 := hp.length_eq
    have h4 := ho.length_eq
    rw [e1] at h4
    simp only [List.length_append, List.length_map, List.length_cons, List.length_nil] at h2 h3 h4 ⊢
    omega
  · intro i hi
    have h2 := List.pairwise_iff_getElem.1 hos i (i + 1) (by omega) hi (by omega)
    cases h3 : blt (O[i]'(by omega)) O[i + 1]
    · have h4 := blt_total h3 h2
      have h5 := List.pairwise_iff_getElem.1 (List.nodup_iff_pairwise_ne.1 hOn) i (i + 1) (by omega) hi (by omega)
      exact absurd h4 h5
    · rfl
  · intro i hi
    obtain ⟨g, hg, e⟩ := List.mem_map.1 ((hO _).1 (List.getElem_mem hi))
    obtain ⟨k, hk2, e2⟩ := List.getElem_of_mem (hGm g hg).1
    exact ⟨k, hk2, by rw [e2, e]⟩
  · intro k hk2 hm
    obtain ⟨g, hg, e⟩ := List.mem_map.1 ((hO _).1 hm)
    have e6 := hF.inj g (hGm g hg).1 _ (List.getElem_mem hk2) e
    subst e6
    obtain ⟨m1, m2, m3⟩ := mayV_iff (hGm _ hg).2
    refine ⟨m1, m2, m3, ?_⟩
    rw [show fitsB room (leftD O l ++ [p] ++ [l[k]]) = fitsB room ((chooseD room (stayD p l) K).1 ++ [l[k]]) from fitsB_perm (left.append_right _)]
    exact e5 _ hg
def anyId (l : List Pd) (s : ByteArray) : Bool := l.any fun v => v.id.toList == s.toList
theorem anyId_next (l : List Pd) (s : ByteArray) (k : Nat) (hk : k < l.length) : anyId (l.take (k + 1)) s = (anyId (l.take k) s || (l[k].id.toList == s.toList)) := by
  unfold anyId
  rw [List.take_succ_eq_append_getElem hk, List.any_append]
  simp
theorem anyId_all {l : List Pd} {s : ByteArray} (h : ∃ k, ∃ hk : k < l.length, l[k].id = s) : anyId l s = true := by
  obtain ⟨k, hk, e⟩ := h
  exact List.any_eq_true.2 ⟨l[k], List.getElem_mem hk, by rw [e]; simp⟩
end Go.Proofs.YtlhmhcidknadmaaDoor
