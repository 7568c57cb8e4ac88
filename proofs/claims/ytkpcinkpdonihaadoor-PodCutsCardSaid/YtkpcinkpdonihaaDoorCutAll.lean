/- pod.Cut in one function of the bytes. -/
import Derived.Test.YtkpcinkpdonihaaDoorCut2
namespace Go.Proofs.YtkpcinkpdonihaaDoor
open Go.RowKit

/-- the pod that bytes begin with, and what is left -/
def cutOf (l : List UInt8) : Option (Pd × List UInt8) :=
  match textOf l with
  | none => none
  | some (a, l1) =>
    match textOf l1 with
    | none => none
    | some (b, r) => if 64 < r.length then (if cutOk (str a) (str b) r = true then some (cutPd (str a) (str b) r, r.drop 65) else none) else none

theorem textOf_some {l a r : List UInt8} (h : textOf l = some (a, r)) : ∃ x l1, l = x :: l1 ∧ x.toNat ≤ l1.length ∧ a = l1.take x.toNat ∧ r = l1.drop x.toNat := by
  rcases l with _ | ⟨x, l1⟩
  · cases h
  · simp only [textOf] at h
    split at h
    · injection h with h; injection h with h1 h2; exact ⟨x, l1, rfl, by assumption, h1.symm, h2.symm⟩
    · cases h

/-- the answer where there is a pod, or none -/
def CutAny (l : List UInt8) (w : World) (e : Ending) (w' : World) : Prop :=
  (∃ p rest, cutOf l = some (p, rest) ∧ (∃ A c, e = .returned (.tuple #[.agg p.cells, .slice A rest.length c, .int .i64 0]) ∧ Own w' w.heap.size 5 encB (.slice A rest.length c) rest) ∧ Below w.heap.size w w') ∨
  (cutOf l = none ∧ e = .returned (.tuple #[.agg zeroPod, .slice none 0 0, .int .i64 3]) ∧ Below w.heap.size w w')

theorem cut_any (A : Option Addr) (c : Nat) (l : List UInt8) (w : World) (hr : Rds w encB A l) (hc : l.length ≤ c) (hm : c ≤ 9223372036854775807) (hbd : l.length ≤ 140737488355328) :
    Calls Tryd.prog 5 #[.slice A l.length c] w (CutAny l w) := by
  cases h1 : textOf l with
  | none => exact (cut_no1 A c l w hr hc hm h1).mono fun e w' h => Or.inr ⟨by unfold cutOf; rw [h1], h⟩
  | some q1 =>
    obtain ⟨a, l1⟩ := q1
    obtain ⟨x, l0, rfl, hx, rfl, rfl⟩ := textOf_some h1
    cases h2 : textOf (l0.drop x.toNat) with
    | none => exact (cut_no2 A c x l0 w hr hc hm hx _ rfl h2).mono fun e w' h => Or.inr ⟨by unfold cutOf; rw [h1]; simp only [h2], h⟩
    | some q2 =>
      obtain ⟨b, r⟩ := q2
      obtain ⟨y, m, hl, hy, rfl, rfl⟩ := textOf_some h2
      have hlen : (m.drop y.toNat).length ≤ 140737488355328 := by
        have e1 : (y :: m).length = l0.length - x.toNat := by rw [← hl, List.length_drop]
        simp only [List.length_cons] at e1 hbd
        rw [List.length_drop]; omega
      by_cases hs : 64 < (m.drop y.toNat).length
      · refine (cut_long A c x y l0 m w hr hc hm hx hl hy _ rfl hs hlen _ _ rfl rfl).mono fun e w' h => ?_
        rcases h with ⟨hk, he, hb⟩ | ⟨hk, he, hb⟩
        · exact Or.inl ⟨_, _, by unfold cutOf; rw [h1]; simp only [h2, if_pos hs, hk]; rfl, he, hb⟩
        · exact Or.inr ⟨by unfold cutOf; rw [h1]; simp only [h2, if_pos hs, hk]; rfl, he, hb⟩
      · exact (cut_short A c x y l0 m w hr hc hm hx hl hy _ rfl (by omega)).mono fun e w' h => Or.inr ⟨by unfold cutOf; rw [h1]; simp only [h2, if_neg hs], h⟩

theorem cut_some {p : Pd} {rest : List UInt8} (A : Option Addr) (c : Nat) (l : List UInt8) (w : World) (hr : Rds w encB A l) (hc : l.length ≤ c) (hm : c ≤ 9223372036854775807) (hbd : l.length ≤ 140737488355328) (h : cutOf l = some (p, rest)) :
    Calls Tryd.prog 5 #[.slice A l.length c] w fun e w' => ∃ A c, e = .returned (.tuple #[.agg p.cells, .slice A rest.length c, .int .i64 0]) ∧ Own w' w.heap.size 5 encB (.slice A rest.length c) rest ∧ Below w.heap.size w w' :=
  (cut_any A c l w hr hc hm hbd).mono fun e w' hp => by
    rcases hp with ⟨p', r', h', ⟨A, c, he, ho⟩, hb⟩ | ⟨h', _⟩
    · rw [h] at h'; injection h' with h'; injection h' with h1 h2; subst h1; subst h2; exact ⟨A, c, he, ho, hb⟩
    · rw [h] at h'; cases h'
theorem cut_none (A : Option Addr) (c : Nat) (l : List UInt8) (w : World) (hr : Rds w encB A l) (hc : l.length ≤ c) (hm : c ≤ 9223372036854775807) (hbd : l.length ≤ 140737488355328) (h : cutOf l = none) :
    Calls Tryd.prog 5 #[.slice A l.length c] w fun e w' => e = .returned (.tuple #[.agg zeroPod, .slice none 0 0, .int .i64 3]) ∧ Below w.heap.size w w' :=
  (cut_any A c l w hr hc hm hbd).mono fun e w' hp => by
    rcases hp with ⟨p', r', h', _⟩ | ⟨_, he, hb⟩
    · rw [h] at h'; cases h'
    · exact ⟨he, hb⟩
theorem put_any (p : Pd) (w : World) (hp : p.Wf) :
    Calls Tryd.prog 9 #[.agg p.cells] w fun e w' => (p.right = true ∧ (∃ A c, e = .returned (.tuple #[.slice A p.bytes.length c, .int .i64 0]) ∧ Own w' w.heap.size 5 encB (.slice A p.bytes.length c) p.bytes) ∧ Below w.heap.size w w') ∨ (p.right = false ∧ e = .returned (.tuple #[.slice none 0 0, .int .i64 1]) ∧ Below w.heap.size w w') := by
  cases h : p.right
  · exact (put_no p w hp h).mono fun e w' h => Or.inr ⟨rfl, h⟩
  · exact (put_yes p w hp h).mono fun e w' ⟨A, c, h1, h2, h3⟩ => Or.inl ⟨rfl, ⟨A, c, h1, h2⟩, h3⟩
end Go.Proofs.YtkpcinkpdonihaaDoor
