/- The plain laws of lists of images: what is put is found, what is dropped is gone. -/
import Derived.Test.YtfaklhdafpbkmaaAwake15
import Derived.Test.YtfaklhdafpbkmaaSameI
namespace Go.Proofs.Ytfaklhdafpbkmaa
open Go.RowKit

theorem sortedN_iff (l : List Im) : SortedN l ↔ l.Pairwise fun x y => blt x.name y.name = true := by
  rw [List.pairwise_iff_getElem]
  constructor
  · intro h i j hi hj hij; exact h i j hij hj
  · intro h i j hij hj; exact h i j (by omega) hj hij
theorem sorted_right {l : List Im} (h : rightIB l = true) : SortedN l := by
  have step : ∀ (j : Nat) (hj : j + 1 < l.length), blt l[j].name l[j + 1].name = true := fun j hj => by
    have hk := List.all_eq_true.1 h (j + 1) (List.mem_range.2 hj)
    unfold okIm at hk
    rw [List.getElem?_eq_getElem hj] at hk
    simp only [Bool.and_eq_true] at hk
    have h2 := hk.2
    rw [List.getElem?_eq_getElem (by omega)] at h2
    exact h2
  have key : ∀ (d i : Nat) (hj : i + d + 1 < l.length), blt (l[i]'(by omega)).name (l[i + d + 1]'hj).name = true := by
    intro d
    induction d with
    | zero => intro i hj; exact step i hj
    | succ d ih => intro i hj; exact blt_trans (ih i (by omega)) (step (i + d + 1) hj)
  intro i j hij hj
  have := key (j - i - 1) i (by omega)
  simpa only [show i + (j - i - 1) + 1 = j by omega] using this
theorem right_pos {l : List Im} (h : rightIB l = true) {x : Im} (hx : x ∈ l) : 0 ≤ x.size ∧ 0 ≤ x.last := by
  obtain ⟨i, hi, rfl⟩ := List.getElem_of_mem hx
  have hk := List.all_eq_true.1 h i (List.mem_range.2 hi)
  unfold okIm at hk
  rw [List.getElem?_eq_getElem hi] at hk
  simp only [Bool.and_eq_true, decide_eq_true_eq] at hk
  exact hk.1
theorem few_len {l : List Im} (h : fewIB l = true) : l.length ≤ 60 := by
  unfold fewIB at h; simp only [Bool.and_eq_true, decide_eq_true_eq] at h; exact h.2
theorem names_len {l : List ByteArray} (h : namesB l = true) : l.length ≤ 60 := by
  unfold namesB at h; simp only [Bool.and_eq_true, decide_eq_true_eq] at h; exact h.2
theorem few_b (l : List Im) (A : Option Addr) (c : Nat) (w : World) (hr : Rds w encI A l) (hm : l.length ≤ 9223372036854775807) :
    Calls Try.prog 29 #[.slice A l.length c] w fun e w' => e = .returned (.bool (fewIB l)) ∧ Below w.heap.size w w' :=
  (fewI_any l A c w hr hm).mono fun _ _ ⟨h1, h2⟩ => ⟨h1, by subst h2; exact Below.refl _ _⟩
theorem right_b (l : List Im) (A : Option Addr) (c : Nat) (w : World) (hr : Rds w encI A l) (hm : l.length ≤ 9223372036854775807) :
    Calls Try.prog 30 #[.slice A l.length c] w fun e w' => e = .returned (.bool (rightIB l)) ∧ Below w.heap.size w w' :=
  (rightI_any l A c w hr hm).mono fun _ _ ⟨h1, h2⟩ => ⟨h1, below_ofDrewN h2⟩
theorem namesT_b (l : List ByteArray) (A : Option Addr) (c : Nat) (w : World) (hr : Rds w encS A l) (hm : l.length ≤ 9223372036854775807) :
    Calls Try.prog 19 #[.slice A l.length c] w fun e w' => e = .returned (.bool (namesB l)) ∧ Below w.heap.size w w' :=
  (names_any l A c w hr hm).mono fun _ _ ⟨h1, h2⟩ => ⟨h1, by subst h2; exact Below.refl _ _⟩

section
variable {l : List Im} {s : ByteArray} {size r : Int}
theorem lower_lt_ne (hs : SortedN l) (t : Nat) (ht : t < l.length) (hlt : t < lowerI l s) : (l[t].name.toList != s.toList) = true := by
  have h := lower_lo hs s t ht hlt
  rw [bne_iff_ne]
  intro e
  have := toList_inj (beq_iff_eq.2 e)
  rw [this, blt_irrefl] at h
  cases h
theorem lower_gt_ne (hs : SortedN l) (hat : isAt l s = true) (t : Nat) (ht : t < l.length) (hgt : lowerI l s < t) : (l[t].name.toList != s.toList) = true := by
  obtain ⟨hi, hn⟩ := isAt_lt hat
  have h := hs _ t hgt ht
  rw [hn] at h
  rw [bne_iff_ne]
  intro e
  have := toList_inj (beq_iff_eq.2 e)
  rw [this, blt_irrefl] at h
  cases h
theorem no_name (hs : SortedN l) (hat : isAt l s = false) {x : Im} (hx : x ∈ l) : (x.name.toList != s.toList) = true := by
  rw [bne_iff_ne]
  intro e
  have := toList_inj (beq_iff_eq.2 e)
  rw [← this, isAt_mem hs hx] at hat
  cases hat
theorem dropAt_eq (hs : SortedN l) : dropAt l s = dropOf s l := by
  cases hat : isAt l s
  · unfold dropAt dropOf
    rw [hat]
    exact (List.filter_eq_self.2 fun x hx => no_name hs hat hx).symm
  · obtain ⟨hi, hn⟩ := isAt_lt hat
    unfold dropAt dropOf delI
    rw [if_pos hat]
    have e : l = l.take (lowerI l s) ++ l[lowerI l s] :: l.drop (lowerI l s + 1) := by rw [← List.drop_eq_getElem_cons hi, List.take_append_drop]
    have h1 : (l.take (lowerI l s)).filter (fun x => x.name.toList != s.toList) = l.take (lowerI l s) := List.filter_eq_self.2 fun x hx => by
      obtain ⟨t, ht, rfl⟩ := List.mem_take_iff_getElem.1 hx
      exact lower_lt_ne hs t (by omega) (by omega)
    have h2 : (l.drop (lowerI l s + 1)).filter (fun x => x.name.toList != s.toList) = l.drop (lowerI l s + 1) := List.filter_eq_self.2 fun x hx => by
      obtain ⟨t, ht, rfl⟩ := List.getElem_of_mem hx
      rw [List.getElem_drop]
      exact lower_gt_ne hs hat _ (by rw [List.length_drop] at ht; omega) (by omega)
    have e2 : l.filter (fun x => x.name.toList != s.toList) = (l.take (lowerI l s) ++ l[lowerI l s] :: l.drop (lowerI l s + 1)).filter (fun x => x.name.toList != s.toList) := by rw [← e]
    rw [e2, List.filter_append, h1, List.filter_cons, if_neg (by rw [hn]; simp), h2]
theorem dropOf_put (l : List Im) (s : ByteArray) (size r : Int) : dropOf s (putOf l s size r) = dropOf s l := by
  unfold dropOf
  cases hat : isAt l s
  · rw [putOf_no hat]
    unfold insI
    rw [List.filter_append, List.filter_cons, if_neg (by simp), ← List.filter_append, List.take_append_drop]
  · obtain ⟨hi, hn⟩ := isAt_lt hat
    rw [putOf_yes hat, setLast_at hi]
    have e : l = l.take (lowerI l s) ++ l[lowerI l s] :: l.drop (lowerI l s + 1) := by rw [← List.drop_eq_getElem_cons hi, List.take_append_drop]
    have e2 : l.filter (fun x => x.name.toList != s.toList) = (l.take (lowerI l s) ++ l[lowerI l s] :: l.drop (lowerI l s + 1)).filter (fun x => x.name.toList != s.toList) := by rw [← e]
    rw [e2, List.set_eq_take_append_cons_drop, if_pos hi, List.filter_append, List.filter_append, List.filter_cons, List.filter_cons, if_neg (by show ¬ ((l[lowerI l s].name.toList != s.toList) = true); rw [hn]; simp), if_neg (by rw [hn]; simp)]
theorem sorted_dropOf (hs : SortedN l) : SortedN (dropOf s l) := by
  rw [sortedN_iff] at hs ⊢
  exact hs.sublist List.filter_sublist
theorem sorted_insI (hs : SortedN l) (hat : isAt l s = false) : SortedN (insI l (lowerI l s) ⟨s, size, r⟩) := by
  have hs' := (sortedN_iff l).1 hs
  rw [sortedN_iff]
  unfold insI
  rw [List.pairwise_append]
  refine ⟨hs'.sublist (List.take_sublist _ _), List.pairwise_cons.2 ⟨?_, hs'.sublist (List.drop_sublist _ _)⟩, ?_⟩
  · intro y hy
    obtain ⟨t, ht, rfl⟩ := List.getElem_of_mem hy
    rw [List.length_drop] at ht
    rw [List.getElem_drop]
    have h1 := lower_hi hs s (lowerI l s + t) (by omega) (by omega)
    cases h2 : blt s (l[lowerI l s + t]'(by omega)).name
    · have e := blt_total h1 h2
      have h3 := no_name hs hat (List.getElem_mem (show lowerI l s + t < l.length by omega))
      rw [e] at h3
      simp at h3
    · rfl
  · intro x hx y hy
    obtain ⟨t, ht, rfl⟩ := List.mem_take_iff_getElem.1 hx
    have h1 := lower_lo hs s t (by omega) (by omega)
    rcases List.mem_cons.1 hy with rfl | hy
    · exact h1
    · obtain ⟨q, hq, rfl⟩ := List.getElem_of_mem hy
      rw [List.length_drop] at hq
      rw [List.getElem_drop]
      exact hs t (lowerI l s + q) (by omega) (by omega)
theorem setLast_names (l : List Im) (i : Nat) (r : Int) : (setLast l i r).map Im.name = l.map Im.name := by
  unfold setLast
  cases h : l[i]? with
  | none => rfl
  | some x =>
    show (l.set i (late x r)).map Im.name = _
    rw [List.map_set]
    apply List.ext_getElem?
    intro j
    rw [List.getElem?_set]
    split
    · rename_i hij
      subst hij
      split
      · rw [List.getElem?_map, h]; rfl
      · rename_i hlen
        rw [List.getElem?_eq_none (by omega)]
    · rfl
theorem sorted_put (hs : SortedN l) : SortedN (putOf l s size r) := by
  cases hat : isAt l s
  · rw [putOf_no hat]; exact sorted_insI hs hat
  · rw [putOf_yes hat]; exact sorted_names (setLast_names _ _ _) hs
theorem findOf_mem (hs : SortedN l) {x : Im} (hx : x ∈ l) : findOf l x.name = x := by
  have h := isAt_mem hs hx
  obtain ⟨j, hj, rfl⟩ := List.getElem_of_mem hx
  unfold findOf
  rw [if_pos h, lowerI_at hs hj, List.getElem?_eq_getElem hj]
theorem isAt_mem' (h : isAt l s = true) : ∃ x ∈ l, x.name = s := by
  obtain ⟨hi, hn⟩ := isAt_lt h
  exact ⟨_, List.getElem_mem hi, hn⟩
theorem findOf_yes (h : isAt l s = true) : findOf l s ∈ l ∧ (findOf l s).name = s := by
  obtain ⟨hi, hn⟩ := isAt_lt h
  have e : findOf l s = l[lowerI l s] := by unfold findOf; rw [if_pos h, List.getElem?_eq_getElem hi]
  rw [e]
  exact ⟨List.getElem_mem hi, hn⟩
theorem findOf_no (h : isAt l s = false) : findOf l s = zeroIm := by unfold findOf; rw [h]; rfl
/-- what is put is there -/
theorem put_there (hs : SortedN l) : isAt (putOf l s size r) s = true ∧ findOf (putOf l s size r) s = ⟨s, if isAt l s then (findOf l s).size else size, r⟩ := by
  have hp := sorted_put (size := size) (r := r) (s := s) hs
  cases hat : isAt l s
  · have hm : (⟨s, size, r⟩ : Im) ∈ putOf l s size r := by rw [putOf_no hat]; unfold insI; simp
    exact ⟨isAt_mem hp hm, findOf_mem hp hm⟩
  · obtain ⟨hi, hn⟩ := isAt_lt hat
    have hf : findOf l s = l[lowerI l s] := by unfold findOf; rw [if_pos hat, List.getElem?_eq_getElem hi]
    have hm : (⟨s, (findOf l s).size, r⟩ : Im) ∈ putOf l s size r := by
      rw [putOf_yes hat, setLast_at hi, hf]
      have : (⟨s, l[lowerI l s].size, r⟩ : Im) = late l[lowerI l s] r := by unfold late; rw [hn]
      rw [this]
      exact List.mem_iff_getElem.2 ⟨lowerI l s, by simpa using hi, by simp⟩
    exact ⟨isAt_mem hp hm, findOf_mem hp hm⟩
theorem drop_gone (l : List Im) (s : ByteArray) : isAt (dropOf s l) s = false := by
  cases h : isAt (dropOf s l) s
  · rfl
  · obtain ⟨x, hx, hn⟩ := isAt_mem' h
    have := (List.mem_filter.1 hx).2
    rw [hn] at this
    simp at this
theorem put_len (h : isAt l s = true) : (putOf l s size r).length = l.length := by rw [putOf_yes h, setLast_len]
end
end Go.Proofs.Ytfaklhdafpbkmaa
