/- append of one element built in place. -/
import Derived.Test.YtampjkgkiooibaaDoorBase
namespace Go.Proofs.YtampjkgkiooibaaDoor
open Go.RowKit

theorem own_len1 {α : Type} {size : Nat} {E : Enc α size} {w : World} {base : Nat} {e : TypeId} {A : Option Addr} {l : List α} {u : α} {c : Nat} (h : Own w base e E (.slice A (l.length + 1) c) (l ++ [u])) : Own w base e E (.slice A (l ++ [u]).length c) (l ++ [u]) := by rw [List.length_append]; exact h
/-- append(out, x): the one element built in place -/
theorem wl_push {P : Program} {t e : TypeId} {α : Type} {size bytes : Nat} {w0 W0 : World} (T : Elem P t e size bytes) (E : Enc α size) {ops : Array Oper} {rest : List Oper} {o : Oper} {a : Act} {Q : Exit → Act → World → Prop} (hgd : o.guard = none) (s x : Operand)
    (ho : o.op = .call { callee := .builtin .append, args := #[s, x], argTypes := #[t, t] }) (u : α) (cs : Array Value) (hE : E.enc u = cs.toList)
    (base : Nat) (v : Value) (l : List α) (hs : a.eval s = v) (hown : Own w0 base e E v l) {N : Nat} (hx : a.eval x = .slice (some ⟨N, 0, none⟩) 1 1) (hN : w0.heap.size = N) (hB : Below base W0 w0)
    (hb : (l.length + 1) * bytes ≤ 140737488355328) (h63 : l.length + 1 ≤ 9223372036854775807) (hbw : base ≤ w0.heap.size)
    (h : ∀ A' c' w', Own w' base e E (.slice A' (l.length + 1) c') (l ++ [u]) → Below base W0 w' → (w0.alloc (.cells cs e)).grownBy w' v.ownBlock → wpList P ops Q rest (a.put o.dst (.slice A' (l.length + 1) c')) w') :
    wpList P ops Q (o :: rest) a (w0.alloc (.cells cs e)) := by
  subst hN
  have hr : Rds (w0.alloc (.cells cs e)) E (some ⟨w0.heap.size, 0, none⟩) [u] := Rds.made w0 E [u] e cs (0, 0) (by rw [Enc.all_one]; exact hE.symm)
  have hB2 : Below base W0 (w0.alloc (.cells cs e)) := hB.alloc hbw _
  refine wl_app T E hgd s x ho base v l hs (hown.alloc _) _ [u] 1 hx hr hb h63 (by simp; omega) ?_
  intro A' c' w' h1 h2 _
  exact h A' c' w' h1 ((hown.alloc _).belowGrown hB2 h2 (Nat.le_refl _) (by simp; omega)) h2
end Go.Proofs.YtampjkgkiooibaaDoor
