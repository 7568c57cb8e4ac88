/- A row of one's own behind the library's sort. -/
import Derived.Test.YtampjkgkiooibaaDoorCmpR
import Derived.Test.YtampjkgkiooibaaDoorShelf
namespace Go.Proofs.YtampjkgkiooibaaDoor
open Go.RowKit

section
variable {α : Type} {size : Nat} {E : Enc α size} {w : World} {base : Nat} {e : TypeId} {v : Value} {l : List α}
theorem own_open (h : Own w base e E v l) (hl : l ≠ []) : ∃ g cap cur, v = .slice (some ⟨g, 0, none⟩) l.length cap ∧ base ≤ g ∧ Blk w g e cur ∧ l.length ≤ cap ∧ cap ≤ maxLen ∧ cur.size = cap * size ∧ cur.toList.take (l.length * size) = E.all l := by
  rcases h.2 with ⟨rfl, h0⟩ | ⟨g, cap, cur, rfl, hb, hg, hn, hm, hcs, ht⟩
  · exact absurd (List.eq_nil_of_length_eq_zero h0) hl
  · exact ⟨g, cap, cur, rfl, hb, hg, hn, hm, hcs, ht⟩
theorem own_shut {g cap : Nat} {cur : Array Value} (hb : base ≤ g) (hg : Blk w g e cur) (hn : l.length ≤ cap) (hm : cap ≤ maxLen) (hcs : cur.size = cap * size) (ht : cur.toList.take (l.length * size) = E.all l) : Own w base e E (.slice (some ⟨g, 0, none⟩) l.length cap) l :=
  ⟨E.all_len l, .inr ⟨g, cap, cur, rfl, hb, hg, hn, hm, hcs, ht⟩⟩
theorem flat_get [Inhabited α] (d : Array α) (t : Nat) (h : t < d.size * size) : (E.all d.toList)[t]? = some (Go.Sort.flatK E.enc size d)[t]! := by
  have hp := E.pos
  have h1 : t / size < d.size := Nat.div_lt_of_lt_mul (by rwa [Nat.mul_comm])
  have h2 : t % size < size := Nat.mod_lt _ hp
  rw [Go.Sort.get_flatK _ _ _ _ h]
  have h3 := E.all_at d.toList (t / size) (t % size) (by simpa using h1) h2
  rw [Nat.div_add_mod'] at h3
  rw [h3, getElem!_pos d _ h1, Array.getElem_toList]
  have h4 : t % size < (E.enc d[t / size]).length := by rw [E.len]; exact h2
  rw [List.getElem?_eq_getElem h4, getElem!_pos (E.enc d[t / size]) (t % size) h4]
theorem holds_of [Inhabited α] {g : Nat} {cur : Array Value} (hg : Blk w g e cur) (ht : cur.toList.take (l.length * size) = E.all l) : Go.Sort.HoldsK E.enc size w g 0 l.toArray := by
  intro j hj
  rw [Go.Sort.size_flatK] at hj
  have hj' : j < l.length * size := by simpa using hj
  refine ⟨?_, hg.frozen _⟩
  rw [Nat.zero_add, hg.cell j]
  have h1 : (cur.toList.take (l.length * size))[j]? = some (Go.Sort.flatK E.enc size l.toArray)[j]! := by rw [ht]; exact flat_get (E := E) l.toArray j hj
  rw [List.getElem?_take_of_lt hj'] at h1
  simpa using h1
theorem sortWorld_own [Inhabited α] {g cap n : Nat} {cur : Array Value} {d : Array α} {os : Array Obj} (hb : base ≤ g) (hg : Blk w g e cur) (hd : d.size = l.length) (hn : l.length ≤ cap) (hm : cap ≤ maxLen) (hcs : cur.size = cap * size) :
    Own (sortWorldK E.enc size w g 0 n d os) base e E (.slice (some ⟨g, 0, none⟩) d.toList.length cap) d.toList ∧ w.grownBy (sortWorldK E.enc size w g 0 n d os) (some g) := by
  have hgl := hg.lt
  have hheap : ∀ k, k < w.heap.size → (sortWorldK E.enc size w g 0 n d os).heap[k]? = (w.heap.modify g (Go.Sort.onCells (Go.Sort.putCells id 0 (Go.Sort.flatK E.enc size d))))[k]? := fun k hk => by
    show ((w.heap.modify g _) ++ os)[k]? = _
    rw [Array.getElem?_append_left (by simpa using hk)]
  refine ⟨own_shut (cur := Go.Sort.putCells id 0 (Go.Sort.flatK E.enc size d) cur) hb ?_ (by simpa [hd] using hn) hm (by unfold Go.Sort.putCells; simpa using hcs) ?_, ⟨rfl, rfl, rfl, ?_, fun k hk hne => ?_⟩⟩
  · unfold Blk
    rw [hheap g hgl, Array.getElem?_modify, if_pos rfl]
    unfold Blk at hg
    rw [hg]; rfl
  · apply List.ext_getElem?
    intro k
    rcases Nat.lt_or_ge k (d.toList.length * size) with hk | hk
    · have hk' : k < d.size * size := by simpa using hk
      have hkc : k < cur.size := by rw [hcs]; exact Nat.lt_of_lt_of_le hk' (Nat.mul_le_mul_right _ (by rw [hd]; exact hn))
      rw [List.getElem?_take_of_lt hk, flat_get d k hk', Array.getElem?_toList]
      unfold Go.Sort.putCells
      rw [Array.getElem?_mapIdx, Array.getElem?_eq_getElem hkc, Option.map_some, if_pos (by rw [Go.Sort.size_flatK]; omega), Nat.sub_zero]
      rfl
    · rw [List.getElem?_eq_none (by rw [List.length_take]; omega), List.getElem?_eq_none (by rw [E.all_len]; exact hk)]
  · show w.heap.size ≤ ((w.heap.modify g _) ++ os).size
    simp
  · rw [hheap k hk, Array.getElem?_modify, if_neg (by intro e; exact hne (by rw [e]))]
end
theorem perm_of {α : Type} [Inhabited α] {l : List α} {d' : Array α} (h : Go.Sort.PermIn 0 l.toArray.size l.toArray d') : d'.size = l.length ∧ d'.toList.Perm l := by
  obtain ⟨h1, _, h3⟩ := h
  have hs : d'.size = l.length := by simpa using h1
  refine ⟨hs, ?_⟩
  have e1 : d'.extract 0 l.toArray.size = d' := by rw [Array.extract_eq_self_of_le]; simp [hs]
  have e2 : l.toArray.extract 0 l.toArray.size = l.toArray := by rw [Array.extract_eq_self_of_le]; simp
  rw [e1, e2] at h3
  exact h3
theorem sorted_of {α : Type} [Inhabited α] {lt : α → α → Bool} {d : Array α} (h : Go.Sort.SortedIn lt 0 d.size d) : d.toList.Pairwise fun x y => lt y x = false := by
  rw [List.pairwise_iff_getElem]
  intro i j hi hj hij
  have hi' : i < d.size := by simpa using hi
  have hj' : j < d.size := by simpa using hj
  have := h i j (Nat.zero_le _) hij hj'
  rw [getElem!_pos d i hi', getElem!_pos d j hj'] at this
  simpa using this
end Go.Proofs.YtampjkgkiooibaaDoor
