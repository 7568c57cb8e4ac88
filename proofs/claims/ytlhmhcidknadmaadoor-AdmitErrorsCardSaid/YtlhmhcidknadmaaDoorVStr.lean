/- slices.Sort at texts, slices.Clone at pods, on rows of one's own. -/
import Derived.Test.YtlhmhcidknadmaaDoorVSort
import Derived.Shelf.Sort.Plain
import Derived.Shelf.Slices.In.SortNone
import Derived.Shelf.SlicesE.Clone
namespace Go.Proofs.YtlhmhcidknadmaaDoor
open Go.RowKit

theorem putRow_str (w : World) (g : Nat) (ss : List (List UInt8)) : Go.Sort.putRow encStr w g 0 ss.toArray = Go.Sort.putRowK encS.enc 1 w g 0 (ss.map fun b => (⟨b.toArray⟩ : ByteArray)).toArray := by
  unfold Go.Sort.putRowK Go.Sort.putRow
  congr 1
  funext c
  unfold Go.Sort.putCells
  have hsz : (Go.Sort.flatK encS.enc 1 (ss.map fun b => (⟨b.toArray⟩ : ByteArray)).toArray).size = ss.length := by rw [Go.Sort.size_flatK]; simp
  apply Array.ext
  · simp
  · intro k h1 h2
    simp only [Array.getElem_mapIdx]
    by_cases hk : k < ss.length
    · rw [if_pos (by simp; omega), if_pos (by rw [hsz]; omega)]
      rw [Nat.sub_zero, Go.Sort.get_flatK _ _ _ _ (by simpa using hk)]
      simp only [Nat.div_one, Nat.mod_one]
      rw [getElem!_pos ss.toArray k (by simpa using hk), getElem!_pos (ss.map fun b => (⟨b.toArray⟩ : ByteArray)).toArray k (by simpa using hk)]
      simp [encS]
    · rw [if_neg (by simp; omega), if_neg (by rw [hsz]; omega)]
abbrev leB : List UInt8 → List UInt8 → Bool := fun x y => decide (x ≤ y)
theorem leB_trans (a b c : List UInt8) (h1 : leB a b = true) (h2 : leB b c = true) : leB a c = true := decide_eq_true (List.le_trans (of_decide_eq_true h1) (of_decide_eq_true h2))
theorem leB_total (a b : List UInt8) : (leB a b || leB b a) = true := by
  by_cases h : a ≤ b
  · simp [leB, h]
  · have h2 : b ≤ a := List.not_lt.1 fun h3 => h (List.not_lt.1 fun h4 => absurd (List.lt_trans h3 h4) (List.lt_irrefl _))
    simp [leB, h2]
def toStr (b : List UInt8) : ByteArray := ⟨b.toArray⟩
theorem toStr_data (s : ByteArray) : toStr s.data.toList = s := by unfold toStr; simp
def SortsS (l : List ByteArray) (A : Option Addr) (c : Nat) (base : Nat) (w : World) (e : Ending) (w' : World) : Prop :=
  e = .returned (.tuple #[]) ∧ ∃ l' : List ByteArray, l'.Perm l ∧ (l'.Pairwise fun x y => blt y x = false) ∧ Own w' base 9 encS (.slice A l'.length c) l' ∧ w.grownBy w' (Value.slice A l.length c).ownBlock
theorem sortS_any (l : List ByteArray) (A : Option Addr) (c : Nat) (w : World) (base : Nat) (hown : Own w base 9 encS (.slice A l.length c) l) (hn : l.length ≤ 100000) :
    Calls Tryd.prog 36 #[.slice A l.length c] w (SortsS l A c base w) := by
  by_cases hl : l = []
  · subst hl
    exact (Any.slices_Sort_string_none Tryd.lays190 A c w).mono fun e w' ⟨he, hw⟩ => by
      subst hw
      exact ⟨he, [], List.Perm.refl _, List.Pairwise.nil, hown, World.grownBy.refl _ _⟩
  · obtain ⟨g, cap, cur, hv, hb, hg, hnc, hm, hcs, ht⟩ := own_open hown hl
    injection hv with e1 _ e3
    subst e1
    subst e3
    have hH : Go.Sort.Holds encStr w g 0 (l.map fun s => s.data.toList).toArray := by
      intro j hj
      have hj' : j < l.length := by simpa using hj
      refine ⟨?_, hg.frozen _⟩
      rw [Nat.zero_add, hg.cell j]
      have h1 : (cur.toList.take (l.length * 1))[j]? = (encS.all l)[j * 1 + 0]? := by rw [ht]; simp
      rw [encS.all_at l j 0 hj' (by decide), List.getElem?_take_of_lt (by omega), Array.getElem?_toList] at h1
      rw [h1, getElem!_pos _ j hj]
      simp [encS, encStr]
    have hcon := Any.slices_Sort_string Tryd.lays190 g 0 c (l.map fun s => s.data.toList) w hH hg.lt (by simp; omega)
    change Calls Tryd.prog 36 _ _ _ at hcon
    rw [List.length_map] at hcon
    refine hcon.mono fun e w' ⟨he, n, os, hw⟩ => ?_
    rw [putRow_str] at hw
    obtain ⟨S, hS⟩ : ∃ S, S = (l.map fun s => s.data.toList).mergeSort fun x y => decide (x ≤ y) := ⟨_, rfl⟩
    rw [← hS] at hw
    have hp0 : S.Perm (l.map fun s => s.data.toList) := by rw [hS]; exact List.mergeSort_perm _ _
    have hsd : S.Pairwise fun x y => decide (x ≤ y) = true := by
      rw [hS]
      exact List.pairwise_mergeSort (le := leB) leB_trans leB_total _
    have hperm : (S.map fun b => (⟨b.toArray⟩ : ByteArray)).Perm l := by
      have h := hp0.map fun b => (⟨b.toArray⟩ : ByteArray)
      have e : (l.map fun s => s.data.toList).map (fun b => (⟨b.toArray⟩ : ByteArray)) = l := by
        rw [List.map_map]
        conv => rhs; rw [← List.map_id l]
        apply List.map_congr_left
        intro s _
        simp
      rwa [e] at h
    have hlen : (S.map fun b => (⟨b.toArray⟩ : ByteArray)).length = l.length := hperm.length_eq
    obtain ⟨ho, hgr⟩ := sortWorld_own (E := encS) (n := n) (os := os) (d := (S.map fun b => (⟨b.toArray⟩ : ByteArray)).toArray) hb hg (by simpa using hlen) hnc hm hcs
    unfold sortWorldK at ho hgr
    rw [← hw] at ho hgr
    refine ⟨he, (S.map fun b => (⟨b.toArray⟩ : ByteArray)), hperm, ?_, by simpa using ho, hgr⟩
    rw [List.pairwise_map]
    exact hsd.imp fun {x y} h => by
      rw [blt_eq]
      exact decide_eq_false (List.not_lt.2 (by simpa using of_decide_eq_true h))
/-! ### a copy -/
theorem elemP : Elem Tryd.prog 40 29 11 104 := by
  obtain ⟨i, h1, h2, h3, h4⟩ := info_parts (show (Tryd.prog.info? 29).map (fun i => (i.zero, i.size, i.bytes)) = some (some (.agg #[.string ⟨#[]⟩, .int .i64 0, .bool false, .int .i64 0, .int .i64 0, .int .i64 0, .int .i64 0, .int .i64 0, .int .i64 0, .string ⟨#[]⟩, .int .i64 0]), 11, 104) by kernel_rfl)
  exact ⟨Tryd.underlying40, i, _, h1, h2, h3, h4, rfl⟩
/-- it gives these pods, in memory of its own -/
def GivesP (L : List Pd) (w : World) (e : Ending) (w' : World) : Prop := ∃ A c, e = .returned (.slice A L.length c) ∧ Own w' w.heap.size 29 encP (.slice A L.length c) L ∧ Below w.heap.size w w'
theorem cloneP_any (l : List Pd) (A : Option Addr) (c : Nat) (w : World) (hr : Rds w encP A l) (hne : l ≠ []) (hn : l.length ≤ 100000) :
    Calls Tryd.prog 35 #[.slice A l.length c] w (GivesP l w) := by
  obtain ⟨b, off, rfl, hb, hc⟩ := hr hne
  obtain ⟨i, h1, h2, h3, h4⟩ := info_parts (show (Tryd.prog.info? 29).map (fun i => (i.zero, i.size, i.bytes)) = some (some (.agg #[.string ⟨#[]⟩, .int .i64 0, .bool false, .int .i64 0, .int .i64 0, .int .i64 0, .int .i64 0, .int .i64 0, .int .i64 0, .string ⟨#[]⟩, .int .i64 0]), 11, 104) by kernel_rfl)
  have hcon := AnyE.slices_Clone Tryd.cloneP i _ 11 104 h1 h2 h3 h4 rfl (by decide) Tryd.sizeOf29 b off l.length c (encP.all l) w (encP.all_len l) (by unfold maxLen; omega) (by omega) hc (encP.all_oneCell l)
  change Calls Tryd.prog 35 _ _ _ at hcon
  refine hcon.mono fun e w' ⟨v', he, ho, _, hbl⟩ => ?_
  have ho' : Own w' w.heap.size 29 encP v' l := ho
  obtain ⟨A', c', rfl, _⟩ := ho'.form
  exact ⟨A', c', he, ho', hbl⟩
end Go.Proofs.YtlhmhcidknadmaaDoor
