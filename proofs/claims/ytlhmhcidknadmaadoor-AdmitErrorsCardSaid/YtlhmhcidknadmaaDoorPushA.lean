/- append of one element built in place, and where what is owned lies behind it; two rows of one type that lie apart. -/
import Derived.Test.YtlhmhcidknadmaaDoorPush
namespace Go.Proofs.YtlhmhcidknadmaaDoor
open Go.RowKit

theorem wl_pushA {P : Program} {t e : TypeId} {α : Type} {size bytes : Nat} {w0 W0 : World} (T : Elem P t e size bytes) (E : Enc α size) {ops : Array Oper} {rest : List Oper} {o : Oper} {a : Act} {Q : Exit → Act → World → Prop} (hgd : o.guard = none) (s x : Operand)
    (ho : o.op = .call { callee := .builtin .append, args := #[s, x], argTypes := #[t, t] }) (u : α) (cs : Array Value) (hE : E.enc u = cs.toList)
    (base : Nat) (v : Value) (l : List α) (hs : a.eval s = v) (hown : Own w0 base e E v l) {N : Nat} (hx : a.eval x = .slice (some ⟨N, 0, none⟩) 1 1) (hN : w0.heap.size = N) (hB : Below base W0 w0)
    (hb : (l.length + 1) * bytes ≤ 140737488355328) (h63 : l.length + 1 ≤ 9223372036854775807) (hbw : base ≤ w0.heap.size)
    (h : ∀ A' c' w', Own w' base e E (.slice A' (l.length + 1) c') (l ++ [u]) → Below base W0 w' → (w0.alloc (.cells cs e)).grownBy w' v.ownBlock → ((Value.slice A' (l.length + 1) c').ownBlock = v.ownBlock ∨ (Value.slice A' (l.length + 1) c').ownBlock = some (w0.heap.size + 1)) → wpList P ops Q rest (a.put o.dst (.slice A' (l.length + 1) c')) w') :
    wpList P ops Q (o :: rest) a (w0.alloc (.cells cs e)) := by
  subst hN
  have hr : Rds (w0.alloc (.cells cs e)) E (some ⟨w0.heap.size, 0, none⟩) [u] := Rds.made w0 E [u] e cs (0, 0) (by rw [Enc.all_one]; exact hE.symm)
  have hB2 : Below base W0 (w0.alloc (.cells cs e)) := hB.alloc hbw _
  have hz : (w0.alloc (.cells cs e)).heap.size = w0.heap.size + 1 := by simp
  refine wl_app T E hgd s x ho base v l hs (hown.alloc _) _ [u] 1 hx hr hb h63 (by simp; omega) ?_
  intro A' c' w' h1 h2 h3
  rw [hz] at h3
  exact h A' c' w' h1 ((hown.alloc _).belowGrown hB2 h2 (Nat.le_refl _) (by simp; omega)) h2 h3
def Apart (v1 v2 : Value) : Prop := ∀ g, v1.ownBlock = some g → v2.ownBlock ≠ some g
theorem Apart.symm {v1 v2 : Value} (h : Apart v1 v2) : Apart v2 v1 := fun g h1 h2 => h g h2 h1
theorem Apart.nilL (v : Value) : Apart (.slice none 0 0) v := fun g h => by simp [Value.ownBlock] at h
theorem Apart.ne {v1 v2 : Value} (h : Apart v1 v2) : v2.ownBlock = none ∨ v2.ownBlock ≠ v1.ownBlock := by
  cases h2 : v2.ownBlock with
  | none => exact .inl rfl
  | some g => exact .inr fun e => h g e.symm h2
theorem Apart.next {v1 v1' v2 : Value} {N : Nat} (h : Apart v1 v2) (h1 : v1'.ownBlock = v1.ownBlock ∨ v1'.ownBlock = some N) (h2 : ∀ g, v2.ownBlock = some g → g < N) : Apart v1' v2 := fun g hg e => by
  rcases h1 with h1 | h1
  · exact h g (by rw [← h1]; exact hg) e
  · rw [h1] at hg
    injection hg with hg
    have := h2 g e
    omega
end Go.Proofs.YtlhmhcidknadmaaDoor
