/- bilgeref21.Exact: the exact sums; a sum that stops at the greatest number fits just if the exact one does. -/
import Derived.Test.YtlhmhcidknadmaaGreatDoorVGen
import Derived.Laws.Bits64
namespace Go.Proofs.YtlhmhcidknadmaaGreatDoor
open Go.RowKit

def mn (t : Int) : Int := if t ≤ most then t else most
theorem satAdd_mn (t q : Int) (ht : 0 ≤ t) (hq : 0 ≤ q) : satAdd (mn t) q = mn (t + q) := by
  unfold satAdd nat0 mn most
  repeat' split
  all_goals omega
theorem fit1_mn (r t : Int) (ht : 0 ≤ t) : fit1 r (mn t) = decide (t < most ∧ t ≤ r) := by
  unfold fit1 mn
  rw [Bool.eq_iff_iff]
  unfold most
  simp only [Bool.and_eq_true, Bool.not_eq_true', beq_eq_false_iff_ne, decide_eq_false_iff_not, decide_eq_true_eq]
  split <;> omega
def ex0 (t : Int) (l : List Pd) : Int := l.foldl (fun s p => s + p.q0) t
theorem ex0_snoc (l : List Pd) (k : Nat) (h : k < l.length) : ex0 0 (l.take (k + 1)) = ex0 0 (l.take k) + l[k].q0 := by
  unfold ex0
  rw [List.take_succ_eq_append_getElem h, List.foldl_append]
  rfl
theorem ex0_nonneg (l : List Pd) : ∀ t : Int, 0 ≤ t → (∀ x ∈ l, 0 ≤ x.q0) → 0 ≤ ex0 t l := by
  induction l with
  | nil => intro t h _; exact h
  | cons p l ih =>
    intro t h hq
    have := hq p (by simp)
    exact ih (t + p.q0) (by omega) fun x hx => hq x (by simp [hx])
def ex1 (t : Int) (l : List Pd) : Int := l.foldl (fun s p => s + p.q1) t
theorem ex1_snoc (l : List Pd) (k : Nat) (h : k < l.length) : ex1 0 (l.take (k + 1)) = ex1 0 (l.take k) + l[k].q1 := by
  unfold ex1
  rw [List.take_succ_eq_append_getElem h, List.foldl_append]
  rfl
theorem ex1_nonneg (l : List Pd) : ∀ t : Int, 0 ≤ t → (∀ x ∈ l, 0 ≤ x.q1) → 0 ≤ ex1 t l := by
  induction l with
  | nil => intro t h _; exact h
  | cons p l ih =>
    intro t h hq
    have := hq p (by simp)
    exact ih (t + p.q1) (by omega) fun x hx => hq x (by simp [hx])
def ex2 (t : Int) (l : List Pd) : Int := l.foldl (fun s p => s + p.q2) t
theorem ex2_snoc (l : List Pd) (k : Nat) (h : k < l.length) : ex2 0 (l.take (k + 1)) = ex2 0 (l.take k) + l[k].q2 := by
  unfold ex2
  rw [List.take_succ_eq_append_getElem h, List.foldl_append]
  rfl
theorem ex2_nonneg (l : List Pd) : ∀ t : Int, 0 ≤ t → (∀ x ∈ l, 0 ≤ x.q2) → 0 ≤ ex2 t l := by
  induction l with
  | nil => intro t h _; exact h
  | cons p l ih =>
    intro t h hq
    have := hq p (by simp)
    exact ih (t + p.q2) (by omega) fun x hx => hq x (by simp [hx])
theorem fold_mn (l : List Pd) : ∀ (t0 t1 t2 : Int), 0 ≤ t0 → 0 ≤ t1 → 0 ≤ t2 → (∀ x ∈ l, 0 ≤ x.q0 ∧ 0 ≤ x.q1 ∧ 0 ≤ x.q2) → l.foldl S3.add ⟨mn t0, mn t1, mn t2⟩ = ⟨mn (ex0 t0 l), mn (ex1 t1 l), mn (ex2 t2 l)⟩ := by
  induction l with
  | nil => intro t0 t1 t2 _ _ _ _; rfl
  | cons p l ih =>
    intro t0 t1 t2 h0 h1 h2 hq
    obtain ⟨q0, q1, q2⟩ := hq p (by simp)
    have e : S3.add ⟨mn t0, mn t1, mn t2⟩ p = ⟨mn (t0 + p.q0), mn (t1 + p.q1), mn (t2 + p.q2)⟩ := by
      unfold S3.add
      rw [satAdd_mn _ _ h0 q0, satAdd_mn _ _ h1 q1, satAdd_mn _ _ h2 q2]
    rw [List.foldl_cons, e, ih _ _ _ (by omega) (by omega) (by omega) fun x hx => hq x (by simp [hx])]
    rfl
theorem fitsB_exact (room : S3) (l : List Pd) (hq : ∀ x ∈ l, 0 ≤ x.q0 ∧ 0 ≤ x.q1 ∧ 0 ≤ x.q2) : fitsB room l = (decide (ex0 0 l < most ∧ ex0 0 l ≤ room.a) && (decide (ex1 0 l < most ∧ ex1 0 l ≤ room.b) && decide (ex2 0 l < most ∧ ex2 0 l ≤ room.c))) := by
  unfold fitsB S3.fits sumsOf
  have h := fold_mn l 0 0 0 (by omega) (by omega) (by omega) hq
  rw [show (⟨mn 0, mn 0, mn 0⟩ : S3) = ⟨0, 0, 0⟩ from rfl] at h
  rw [h, fit1_mn _ _ (ex0_nonneg l 0 (by omega) fun x hx => (hq x hx).1), fit1_mn _ _ (ex1_nonneg l 0 (by omega) fun x hx => (hq x hx).2.1), fit1_mn _ _ (ex2_nonneg l 0 (by omega) fun x hx => (hq x hx).2.2)]
def GivesX (S : Int) (w : World) (e : Ending) (w' : World) : Prop := ∃ H N : Int, e = .returned (.tuple #[.int .u64 H, .int .u64 N]) ∧ H * 18446744073709551616 + N = S ∧ 0 ≤ H ∧ 0 ≤ N ∧ N < 18446744073709551616 ∧ w = w'
end Go.Proofs.YtlhmhcidknadmaaGreatDoor
