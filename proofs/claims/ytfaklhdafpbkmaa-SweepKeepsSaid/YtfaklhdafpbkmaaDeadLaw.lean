/- Plain law: the reference's Dead and the program's Dead answer the same, where no two containers bear one Id. -/
import Derived.Test.YtfaklhdafpbkmaaSweepDead
namespace Go.Proofs.Ytfaklhdafpbkmaa
open Go.RowKit

theorem fitB_len {l : List Cn} (h : fitB l = true) : l.length ≤ 60 := by
  unfold fitB at h; simp only [Bool.and_eq_true, decide_eq_true_eq] at h; exact h.1
theorem fitB_ok {l : List Cn} (h : fitB l = true) (i : Nat) (hi : i < l.length) : okAt l i = true := by
  unfold fitB at h; simp only [Bool.and_eq_true, decide_eq_true_eq] at h
  exact List.all_eq_true.1 h.2 i (List.mem_range.2 hi)
theorem fit_step {l : List Cn} (h : fitB l = true) (j : Nat) (hj : j + 1 < l.length) : blt l[j].id l[j + 1].id = true := by
  have hk := fitB_ok h (j + 1) hj
  unfold okAt at hk
  rw [List.getElem?_eq_getElem hj] at hk
  simp only [Bool.and_eq_true] at hk
  have h2 := hk.2
  rw [List.getElem?_eq_getElem (by omega)] at h2
  exact h2
theorem fit_blt {l : List Cn} (h : fitB l = true) : ∀ (d i : Nat) (hj : i + d + 1 < l.length), blt (l[i]'(by omega)).id (l[i + d + 1]'hj).id = true := by
  intro d
  induction d with
  | zero => intro i hj; exact fit_step h i hj
  | succ d ih => intro i hj; exact blt_trans (ih i (by omega)) (fit_step h (i + d + 1) hj)
theorem fit_nodup {l : List Cn} (h : fitB l = true) : (l.map Cn.id).Nodup := by
  unfold List.Nodup
  rw [List.pairwise_map, List.pairwise_iff_getElem]
  intro i j hi hj hij he
  have := fit_blt h (j - i - 1) i (by omega)
  simp only [show i + (j - i - 1) + 1 = j by omega] at this
  rw [he, blt_irrefl] at this
  cases this
theorem id_inj {l : List Cn} (hn : (l.map Cn.id).Nodup) {x y : Cn} (hx : x ∈ l) (hy : y ∈ l) (h : x.id = y.id) : x = y := by
  obtain ⟨i, hi, rfl⟩ := List.getElem_of_mem hx
  obtain ⟨j, hj, rfl⟩ := List.getElem_of_mem hy
  unfold List.Nodup at hn
  rw [List.pairwise_map, List.pairwise_iff_getElem] at hn
  rcases Nat.lt_trichotomy i j with hij | hij | hij
  · exact absurd h (hn i j hi hj hij)
  · subst hij; rfl
  · exact absurd h.symm (hn j i hj hi hij)
theorem nodup_of_ids {l : List Cn} (hn : (l.map Cn.id).Nodup) : l.Nodup := by
  unfold List.Nodup at *
  exact List.Pairwise.of_map Cn.id (fun a b h e => h (by rw [e])) hn
theorem filter_nodup {α : Type} {l : List α} (f : α → Bool) (h : l.Nodup) : (l.filter f).Nodup := List.Pairwise.filter f h

def deadLe (x y : Cn) : Bool := !cnlt y x
theorem deadLe_trans (a b c : Cn) (h1 : deadLe a b = true) (h2 : deadLe b c = true) : deadLe a c = true := by
  unfold deadLe at *
  have := swoC.ntrans c b a (by rw [cfC_lt]; simpa using h2) (by rw [cfC_lt]; simpa using h1)
  rw [cfC_lt] at this
  rw [this]; rfl
theorem deadLe_total (a b : Cn) : (deadLe a b || deadLe b a) = true := by
  unfold deadLe
  cases h : cnlt b a
  · rfl
  · cases h2 : cnlt a b
    · rfl
    · have := cnlt_trans h h2; rw [cnlt_irrefl] at this; cases this
/-- the Ids of the dead ones, in the order in which they go -/
def deadOf (l : List Cn) (pods : List ByteArray) : List ByteArray := ((l.filter (isDead pods)).mergeSort deadLe).map Cn.id
theorem sorted_eq {l : List Cn} {pods : List ByteArray} (hn : (l.map Cn.id).Nodup) {S : List Cn} (hp : S.Perm (l.filter (isDead pods))) (hs : S.Pairwise fun x y => cnlt y x = false) : S = (l.filter (isDead pods)).mergeSort deadLe := by
  have hq := List.mergeSort_perm (l.filter (isDead pods)) deadLe
  refine List.Perm.eq_of_pairwise (le := fun x y => deadLe x y = true) (fun a b ha hb h1 h2 => ?_) (hs.imp fun {x y} h => by unfold deadLe; rw [h]; rfl) (List.pairwise_mergeSort deadLe_trans deadLe_total _) (hp.trans hq.symm)
  have ha' := (List.mem_filter.1 (hp.mem_iff.1 ha)).1
  have hb' := (List.mem_filter.1 (hq.mem_iff.1 hb)).1
  unfold deadLe at h1 h2
  exact id_inj hn ha' hb' (cnlt_total (by simpa using h2) (by simpa using h1)).2
theorem sortedDead_eq {l : List Cn} {pods m : List ByteArray} (hn : (l.map Cn.id).Nodup) (h : SortedDead l pods m) : m = deadOf l pods := by
  obtain ⟨S, hp, hs, rfl⟩ := h
  unfold deadOf
  rw [sorted_eq hn hp hs]
theorem allTold_eq {l : List Cn} {pods m : List ByteArray} (hn : (l.map Cn.id).Nodup) (h : AllTold l pods m) : m = deadOf l pods := by
  obtain ⟨S, rfl, hT, hall⟩ := h
  have hSn : S.Nodup := nodup_of_ids hT.nodup
  have hp : S.Perm (l.filter (isDead pods)) := by
    rw [List.perm_ext_iff_of_nodup hSn (filter_nodup _ (nodup_of_ids hn))]
    intro x
    rw [List.mem_filter]
    constructor
    · exact hT.mem x
    · rintro ⟨hx, hd⟩
      have hc := hall x hx
      have : hasB (S.map Cn.id) x.id = true := by
        cases hh : hasB (S.map Cn.id) x.id
        · rw [(cand_iff _ _ _).2 ⟨hd, hh⟩] at hc; cases hc
        · rfl
      obtain ⟨s, hs, he⟩ := List.mem_map.1 (hasB_mem.1 this)
      rw [← id_inj hn (hT.mem s hs).1 hx he]
      exact hs
  have hs : S.Pairwise fun x y => cnlt y x = false := hT.sorted.imp fun {x y} h => by
    cases h2 : cnlt y x
    · rfl
    · have := cnlt_trans h h2; rw [cnlt_irrefl] at this; cases this
  unfold deadOf
  rw [sorted_eq hn hp hs]
theorem Own.take_ {α : Type} {size : Nat} {E : Enc α size} {w : World} {base : Nat} {e : TypeId} {A : Option Addr} {c : Nat} {l : List α} (h : Own w base e E (.slice A l.length c) l) (k : Nat) (hk : k ≤ l.length) : Own w base e E (.slice A (l.take k).length c) (l.take k) := by
  by_cases hl : l = []
  · subst hl; simpa using h
  · obtain ⟨g, cap, cur, hv, hb, hg, hn, hm, hcs, ht⟩ := own_open h hl
    injection hv with e1 _ e3
    subst e1
    subst e3
    refine own_shut hb hg (by rw [List.length_take]; omega) hm hcs ?_
    have e1 : E.all l = E.all (l.take k) ++ E.all (l.drop k) := by rw [← E.all_append, List.take_append_drop]
    have e2 : (l.take k).length * size = (E.all (l.take k)).length := by rw [E.all_len]
    have e3 : (l.take k).length * size ≤ l.length * size := Nat.mul_le_mul_right _ (by rw [List.length_take]; omega)
    have e4 : (cur.toList.take (l.length * size)).take ((l.take k).length * size) = cur.toList.take ((l.take k).length * size) := by rw [List.take_take, Nat.min_eq_left e3]
    rw [← e4, ht, e1, e2, List.take_left']
    rfl
end Go.Proofs.Ytfaklhdafpbkmaa
