/- bilgeref21.put: texts, rising, one more. -/
import Derived.Test.YtlhmhcidknadmaaDoorVFit
namespace Go.Proofs.YtlhmhcidknadmaaDoor
open Go.RowKit

def PutAt (s : ByteArray) (a r : List ByteArray) (d : Bool) (m : List ByteArray) : Prop :=
  (d = false ∧ m = a ∧ ∀ x ∈ a, blt s x = false) ∨ (d = true ∧ m.Perm (s :: a) ∧ (m.Pairwise fun x y => blt y x = false) ∧ ∀ x ∈ m, ∀ y ∈ r, blt y x = false)
theorem blt_asymmV {a b : ByteArray} (h : blt a b = true) : blt b a = false := by
  cases h2 : blt b a
  · rfl
  · have := blt_trans h h2; rw [blt_irrefl] at this; cases this
theorem gtV (a b : ByteArray) : (!Op.bytesLess a.toList b.toList && !a.toList == b.toList) = blt b a := by
  cases h : blt b a
  · cases h2 : Op.bytesLess a.toList b.toList
    · have e : a = b := blt_total h2 h
      subst e; simp
    · rfl
  · have h2 : Op.bytesLess a.toList b.toList = false := blt_asymmV h
    rw [h2]
    cases h3 : (a.toList == b.toList)
    · rfl
    · have e := toList_injV h3
      subst e; rw [blt_irrefl] at h; cases h
theorem PutAt.len {s : ByteArray} {a r m : List ByteArray} {d : Bool} (h : PutAt s a r d m) : m.length ≤ a.length + 1 := by
  rcases h with ⟨_, rfl, _⟩ | ⟨_, h, _⟩
  · omega
  · rw [h.length_eq]; simp
theorem PutAt.pass {s x : ByteArray} {a r m : List ByteArray} (h : PutAt s a (x :: r) false m) (hx : blt s x = false) : PutAt s (a ++ [x]) r false (m ++ [x]) := by
  rcases h with ⟨_, rfl, h⟩ | ⟨h, _⟩
  · refine .inl ⟨rfl, rfl, fun y hy => ?_⟩
    rcases List.mem_append.1 hy with h1 | h1
    · exact h y h1
    · rw [List.mem_singleton.1 h1]; exact hx
  · cases h
theorem PutAt.then_ {s x : ByteArray} {a r m : List ByteArray} (hs : (a ++ x :: r).Pairwise fun x y => blt y x = false) (h : PutAt s a (x :: r) true m) : PutAt s (a ++ [x]) r true (m ++ [x]) := by
  rcases h with ⟨h, _⟩ | ⟨_, hp, hm, hr⟩
  · cases h
  · have hxr := (List.pairwise_cons.1 (List.pairwise_append.1 hs).2.1).1
    refine .inr ⟨rfl, ?_, ?_, ?_⟩
    · exact (hp.append_right [x])
    · refine List.pairwise_append.2 ⟨hm, List.pairwise_singleton _ _, fun y hy z hz => ?_⟩
      rw [List.mem_singleton.1 hz]
      exact hr y hy x (by simp)
    · intro y hy z hz
      rcases List.mem_append.1 hy with h1 | h1
      · exact hr y h1 z (by simp [hz])
      · rw [List.mem_singleton.1 h1]; exact hxr z hz
theorem PutAt.here {s x : ByteArray} {a r m : List ByteArray} (hs : (a ++ x :: r).Pairwise fun x y => blt y x = false) (h : PutAt s a (x :: r) false m) (hx : blt s x = true) : PutAt s (a ++ [x]) r true ((m ++ [s]) ++ [x]) := by
  rcases h with ⟨_, rfl, ha⟩ | ⟨h, _⟩
  · obtain ⟨h1, h2, h3⟩ := List.pairwise_append.1 hs
    have hxr := (List.pairwise_cons.1 h2).1
    have hsr : ∀ y ∈ r, blt y s = false := fun y hy => by
      cases e : blt y s
      · rfl
      · have := blt_trans e hx; rw [hxr y hy] at this; cases this
    refine .inr ⟨rfl, ?_, ?_, ?_⟩
    · exact (List.perm_append_comm (l₁ := m) (l₂ := [s])).append_right [x]
    · refine List.pairwise_append.2 ⟨List.pairwise_append.2 ⟨h1, List.pairwise_singleton _ _, fun y hy z hz => ?_⟩, List.pairwise_singleton _ _, fun y hy z hz => ?_⟩
      · rw [List.mem_singleton.1 hz]; exact ha y hy
      · rw [List.mem_singleton.1 hz]
        rcases List.mem_append.1 hy with h4 | h4
        · exact h3 y h4 x (by simp)
        · rw [List.mem_singleton.1 h4]; exact blt_asymmV hx
    · intro y hy z hz
      rcases List.mem_append.1 hy with h4 | h4
      · rcases List.mem_append.1 h4 with h5 | h5
        · exact h3 y h5 z (by simp [hz])
        · rw [List.mem_singleton.1 h5]; exact hsr z hz
      · rw [List.mem_singleton.1 h4]; exact hxr z hz
  · cases h
theorem PutAt.done {s : ByteArray} {l m : List ByteArray} (h : PutAt s l [] true m) : m.Perm (s :: l) ∧ m.Pairwise fun x y => blt y x = false := by
  rcases h with ⟨h, _⟩ | ⟨_, h1, h2, _⟩
  · cases h
  · exact ⟨h1, h2⟩
theorem PutAt.last {s : ByteArray} {l m : List ByteArray} (hs : l.Pairwise fun x y => blt y x = false) (h : PutAt s l [] false m) : (m ++ [s]).Perm (s :: l) ∧ (m ++ [s]).Pairwise fun x y => blt y x = false := by
  rcases h with ⟨_, rfl, ha⟩ | ⟨h, _⟩
  · refine ⟨List.perm_append_comm (l₁ := m) (l₂ := [s]), List.pairwise_append.2 ⟨hs, List.pairwise_singleton _ _, fun y hy z hz => ?_⟩⟩
    rw [List.mem_singleton.1 hz]; exact ha y hy
  · cases h
end Go.Proofs.YtlhmhcidknadmaaDoor
