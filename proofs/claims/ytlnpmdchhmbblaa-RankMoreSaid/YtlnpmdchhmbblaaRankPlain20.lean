/- The reference's order of pods: the one that goes first, again and again, is the sorted order. No walk. -/
import Derived.Test.YtlnpmdchhmbblaaRankAwake
namespace Go.Proofs.Ytlnpmdchhmbblaa
open Go.RowKit

def kle (x y : Ky) : Bool := !klt y x
theorem kle_trans (a b c : Ky) (h1 : kle a b = true) (h2 : kle b c = true) : kle a c = true := by
  unfold kle at *
  have := swoK.ntrans c b a (by rw [cfK_lt]; simpa using h2) (by rw [cfK_lt]; simpa using h1)
  rw [cfK_lt] at this
  rw [this]; rfl
theorem kle_total (a b : Ky) : (kle a b || kle b a) = true := by
  unfold kle
  cases h : klt b a
  · rfl
  · rw [klt_asymm h]; rfl
def sortKs (l : List Ky) : List Ky := l.mergeSort kle
theorem sortKs_perm (l : List Ky) : (sortKs l).Perm l := List.mergeSort_perm l kle
theorem sortKs_sorted (l : List Ky) : (sortKs l).Pairwise fun x y => klt y x = false := (List.pairwise_mergeSort kle_trans kle_total l).imp fun h => by simpa [kle] using h
theorem sortKs_eq {l L : List Ky} (hp : L.Perm l) (hs : L.Pairwise fun x y => klt y x = false) : L = sortKs l := sortK_eq (hp.trans (sortKs_perm l).symm) hs (sortKs_sorted l)
theorem sortKs_cons {l l' : List Ky} {M : Ky} (hp : (M :: l').Perm l) (hm : ∀ y ∈ l, klt y M = false) : sortKs l = M :: sortKs l' := by
  refine (sortKs_eq ?_ ?_).symm
  · exact ((sortKs_perm l').cons M).trans hp
  · rw [List.pairwise_cons]
    exact ⟨fun y hy => hm y (hp.mem_iff.1 (List.mem_cons_of_mem _ ((sortKs_perm l').mem_iff.1 hy))), sortKs_sorted l'⟩
theorem sortKs_congr {l l' : List Ky} (hp : l.Perm l') : sortKs l = sortKs l' := sortKs_eq ((sortKs_perm l).trans hp) (sortKs_sorted l)
theorem sortKs_nil : sortKs [] = [] := List.eq_nil_of_length_eq_zero (by rw [(sortKs_perm []).length_eq]; rfl)
theorem sortKs_len (l : List Ky) : (sortKs l).length = l.length := (sortKs_perm l).length_eq
/-- the Ids, in the order in which they go -/
def orderD (k : Int) (l : List En) (us : List Us) : List ByteArray := (sortKs (keysD k l us)).map Ky.id
theorem orderD_perm {k : Int} {l l' : List En} {us : List Us} (h : l.Perm l') : orderD k l us = orderD k l' us := by
  unfold orderD keysD
  rw [sortKs_congr ((h.filter mayB).map _)]
theorem orderD_len (k : Int) (l : List En) (us : List Us) : (orderD k l us).length = (l.filter mayB).length := by
  unfold orderD keysD; rw [List.length_map, sortKs_len, List.length_map]
theorem orderD_le (k : Int) (l : List En) (us : List Us) : (orderD k l us).length ≤ l.length := by rw [orderD_len]; exact List.length_filter_le _ _
/-- of the first n the one that goes first stands at j -/
def BestTo (k : Int) (l : List En) (us : List Us) (n : Nat) : Option Nat → Prop
  | none => ∀ i (hi : i < l.length), i < n → mayB l[i] = false
  | some j => ∃ hj : j < l.length, j < n ∧ mayB l[j] = true ∧ ∀ i (hi : i < l.length), i < n → mayB l[i] = true → aheadB k l[i].pod l[j].pod us = false
section
variable {k : Int} {l : List En} {us : List Us} {n : Nat}
theorem BestTo.start (k : Int) (l : List En) (us : List Us) : BestTo k l us 0 none := fun _ _ h => by omega
theorem BestTo.skip {b : Option Nat} (h : BestTo k l us n b) (hn : n < l.length) (hm : mayB l[n] = false) : BestTo k l us (n + 1) b := by
  cases b with
  | none =>
    intro i hi h2
    by_cases e : i = n
    · subst e; exact hm
    · exact h i hi (by omega)
  | some j =>
    obtain ⟨hj, h1, h2, h3⟩ := h
    refine ⟨hj, by omega, h2, fun i hi h4 h5 => ?_⟩
    by_cases e : i = n
    · subst e; rw [hm] at h5; cases h5
    · exact h3 i hi (by omega) h5
theorem BestTo.first (h : BestTo k l us n none) (hn : n < l.length) (hm : mayB l[n] = true) : BestTo k l us (n + 1) (some n) := by
  refine ⟨hn, by omega, hm, fun i hi h4 h5 => ?_⟩
  by_cases e : i = n
  · subst e; exact klt_irrefl _
  · rw [h i hi (by omega)] at h5; cases h5
theorem BestTo.turn {j : Nat} (h : BestTo k l us n (some j)) (hn : n < l.length) (hm : mayB l[n] = true) (ha : ∀ hj : j < l.length, aheadB k l[n].pod l[j].pod us = true) : BestTo k l us (n + 1) (some n) := by
  obtain ⟨hj, h1, h2, h3⟩ := h
  refine ⟨hn, by omega, hm, fun i hi h4 h5 => ?_⟩
  by_cases e : i = n
  · subst e; exact klt_irrefl _
  · cases hx : aheadB k l[i].pod l[n].pod us
    · rfl
    · have := klt_trans hx (ha hj)
      have h6 := h3 i hi (by omega) h5
      unfold aheadB at h6
      rw [h6] at this; cases this
theorem BestTo.stay {j : Nat} (h : BestTo k l us n (some j)) (hn : n < l.length) (ha : ∀ hj : j < l.length, aheadB k l[n].pod l[j].pod us = false) : BestTo k l us (n + 1) (some j) := by
  obtain ⟨hj, h1, h2, h3⟩ := h
  refine ⟨hj, by omega, h2, fun i hi h4 h5 => ?_⟩
  by_cases e : i = n
  · subst e; exact ha hj
  · exact h3 i hi (by omega) h5
end
def bestV : Option Nat → Int
  | none => -1
  | some j => j
theorem keysD_none {k : Int} {l : List En} {us : List Us} (h : BestTo k l us l.length none) : keysD k l us = [] := by
  unfold keysD
  rw [List.map_eq_nil_iff, List.filter_eq_nil_iff]
  intro x hx
  obtain ⟨i, hi, rfl⟩ := List.getElem_of_mem hx
  rw [h i hi hi]; simp
theorem keysD_min {k : Int} {l : List En} {us : List Us} {j : Nat} (hj : j < l.length) (h : BestTo k l us l.length (some j)) : IsMin (keysD k l us) (keyD k l[j].pod us) := by
  obtain ⟨_, _, h2, h3⟩ := h
  refine ⟨List.mem_map.2 ⟨l[j], List.mem_filter.2 ⟨List.getElem_mem hj, h2⟩, rfl⟩, fun y hy => ?_⟩
  obtain ⟨e, he, rfl⟩ := List.mem_map.1 hy
  obtain ⟨h4, h5⟩ := List.mem_filter.1 he
  obtain ⟨i, hi, rfl⟩ := List.getElem_of_mem h4
  exact h3 i hi hi h5
theorem perm_erase {α : Type} {l : List α} {j : Nat} (hj : j < l.length) : (l[j] :: (l.take j ++ l.drop (j + 1))).Perm l := by
  have e : l = l.take j ++ l[j] :: l.drop (j + 1) := by rw [← List.drop_eq_getElem_cons hj, List.take_append_drop]
  have := (List.perm_middle (a := l[j]) (l₁ := l.take j) (l₂ := l.drop (j + 1))).symm
  rw [← e] at this
  exact this
theorem orderD_nil {k : Int} {l : List En} {us : List Us} (h : BestTo k l us l.length none) : orderD k l us = [] := by
  unfold orderD; rw [keysD_none h, sortKs_nil]; rfl
theorem orderD_cons {k : Int} {l : List En} {us : List Us} {j : Nat} (hj : j < l.length) (h : BestTo k l us l.length (some j)) : orderD k l us = l[j].pod.id :: orderD k (l.take j ++ l.drop (j + 1)) us := by
  have hm := keysD_min hj h
  have hmay : mayB l[j] = true := by obtain ⟨_, _, h2, _⟩ := h; exact h2
  have hp : (keyD k l[j].pod us :: keysD k (l.take j ++ l.drop (j + 1)) us).Perm (keysD k l us) := by
    have := ((perm_erase hj).filter mayB).map fun e => keyD k e.pod us
    rw [List.filter_cons, if_pos hmay, List.map_cons] at this
    exact this
  unfold orderD
  rw [sortKs_cons hp hm.2]; rfl
end Go.Proofs.Ytlnpmdchhmbblaa
