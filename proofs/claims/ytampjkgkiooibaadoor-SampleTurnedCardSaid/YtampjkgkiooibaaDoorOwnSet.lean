/- Storing one element into a row of one's own; rows of one's own apart. -/
import Derived.Test.YtampjkgkiooibaaDoorBase
namespace Go.Proofs.YtampjkgkiooibaaDoor
open Go.RowKit

theorem take_splice {V : Type} (cur vs : List V) (o n : Nat) (h : o + vs.length ≤ n) (hn : n ≤ cur.length) : (cur.take o ++ vs ++ cur.drop (o + vs.length)).take n = (cur.take n).take o ++ vs ++ (cur.take n).drop (o + vs.length) := by
  obtain ⟨p, r, rfl, hp⟩ : ∃ p r, cur = p ++ r ∧ p.length = n := ⟨cur.take n, cur.drop n, (List.take_append_drop n cur).symm, by rw [List.length_take]; omega⟩
  have e1 : (p ++ r).take o = p.take o := List.take_append_of_le_length (by omega)
  have e2 : (p ++ r).drop (o + vs.length) = p.drop (o + vs.length) ++ r := List.drop_append_of_le_length (by omega)
  rw [e1, e2, ← List.append_assoc, List.take_left' (by simp; omega), List.take_left' hp]

section
variable {α : Type} {size : Nat}
theorem Enc.all_take (E : Enc α size) (l : List α) (k : Nat) (hk : k ≤ l.length) : E.all (l.take k) = (E.all l).take (k * size) := by
  have e : E.all l = E.all (l.take k) ++ E.all (l.drop k) := by rw [← E.all_append, List.take_append_drop]
  rw [e, List.take_left' (by rw [E.all_len, List.length_take, Nat.min_eq_left hk])]
theorem Enc.all_drop (E : Enc α size) (l : List α) (k : Nat) (hk : k ≤ l.length) : E.all (l.drop k) = (E.all l).drop (k * size) := by
  have e : E.all l = E.all (l.take k) ++ E.all (l.drop k) := by rw [← E.all_append, List.take_append_drop]
  rw [e, List.drop_left' (by rw [E.all_len, List.length_take, Nat.min_eq_left hk])]
theorem Enc.all_set (E : Enc α size) (l : List α) (k : Nat) (x : α) (hk : k < l.length) : E.all (l.set k x) = (E.all l).take (k * size) ++ E.enc x ++ (E.all l).drop (k * size + size) := by
  rw [List.set_eq_take_append_cons_drop, if_pos hk, E.all_append, E.all_cons, E.all_take l k (by omega), E.all_drop l (k + 1) (by omega), Nat.add_mul, Nat.one_mul, List.append_assoc]

variable {E : Enc α size} {w : World} {base : Nat} {e : TypeId} {v : Value} {l : List α}
theorem own_row (h : Own w base e E v l) (hl : l ≠ []) : ∃ g cap cur, v = .slice (some ⟨g, 0, none⟩) l.length cap ∧ base ≤ g ∧ Blk w g e cur ∧ l.length ≤ cap ∧ cap ≤ maxLen ∧ cur.size = cap * size ∧ cur.toList.take (l.length * size) = E.all l := by
  rcases h.2 with ⟨rfl, h0⟩ | ⟨g, cap, cur, rfl, hb, hg, hn, hm, hcs, ht⟩
  · exact absurd (List.eq_nil_of_length_eq_zero h0) hl
  · exact ⟨g, cap, cur, rfl, hb, hg, hn, hm, hcs, ht⟩
/-- element k turned -/
theorem own_set {g c : Nat} (h : Own w base e E (.slice (some ⟨g, 0, none⟩) l.length c) l) {k : Nat} (hk : k < l.length) (x : α) :
    Own (w.setCells g (k * size) (E.enc x)) base e E (.slice (some ⟨g, 0, none⟩) l.length c) (l.set k x) ∧ w.grownBy (w.setCells g (k * size) (E.enc x)) (some g) ∧ (w.setCells g (k * size) (E.enc x)).heap.size = w.heap.size := by
  obtain ⟨g', cap, cur, hv, hb, hg, hn, hm, hcs, ht⟩ := own_row h (by intro e; subst e; simp at hk)
  injection hv with hv hv2 hv3
  injection hv with hv
  injection hv with hv
  subst hv
  subst hv3
  have hp := E.pos
  have h1 : (k + 1) * size ≤ l.length * size := Nat.mul_le_mul_right _ hk
  have h2 : l.length * size ≤ c * size := Nat.mul_le_mul_right _ hn
  have h3 : k * size + size ≤ l.length * size := by rwa [Nat.add_mul, Nat.one_mul] at h1
  have hcl : cur.toList.length = c * size := by rw [Array.length_toList]; exact hcs
  obtain ⟨s1, s2, s3⟩ := setCells_blk g e (E.enc x) (k * size) w cur.toList (by rw [E.len, hcl]; omega) (by simpa using hg)
  have hln : (l.set k x).length = l.length := List.length_set
  have key : Own (w.setCells g (k * size) (E.enc x)) base e E (.slice (some ⟨g, 0, none⟩) (l.set k x).length c) (l.set k x) := ⟨E.all_len _, .inr ⟨g, c, _, rfl, hb, s1, by omega, hm, ?_, ?_⟩⟩
  · rw [hln] at key
    exact ⟨key, s2, s3⟩
  · rw [List.size_toArray, List.length_append, List.length_append, List.length_take, List.length_drop, E.len, hcl]; omega
  · have e1 : (E.enc x).length = size := E.len x
    have ts := take_splice cur.toList (E.enc x) (k * size) (l.length * size) (by rw [e1]; exact h3) (by rw [hcl]; exact h2)
    rw [ht, e1] at ts
    rw [hln, E.all_set l k x hk, e1]
    exact ts
theorem own_there {g c : Nat} (h : Own w base e E (.slice (some ⟨g, 0, none⟩) l.length c) l) {k : Nat} (hk : k < l.length) : w.there g (k * size) size := by
  obtain ⟨g', cap, cur, hv, hb, hg, hn, hm, hcs, ht⟩ := own_row h (by intro e; subst e; simp at hk)
  injection hv with hv hv2 hv3
  injection hv with hv
  injection hv with hv
  subst hv
  subst hv3
  have h1 : (k + 1) * size ≤ l.length * size := Nat.mul_le_mul_right _ hk
  have h2 : l.length * size ≤ c * size := Nat.mul_le_mul_right _ hn
  rw [Nat.add_mul, Nat.one_mul] at h1
  intro j hj
  exact ⟨by rw [hg.cell, Array.getElem?_eq_getElem (by omega)]; rfl, hg.frozen _⟩

/-- a struct stored at element k -/
theorem wl_store_own {P : Program} {ops : Array Oper} {rest : List Oper} {op : Oper} {a : Act} {Q : Exit → Act → World → Prop} (hgd : op.guard = none) (ty : TypeId) (x y : Operand) (ho : op.op = .store ty x y)
    (g c : Nat) {k : Nat} (u : α) (cells : Array Value) (hx : a.eval x = .pointer (some ⟨g, k * size, none⟩)) (hy : a.eval y = .agg cells)
    (hown : Own w base e E (.slice (some ⟨g, 0, none⟩) l.length c) l) (hk : k < l.length) (hE : E.enc u = cells.toList) (hi : (P.info? ty).map (·.size) = some cells.size)
    (h : ∀ w', Own w' base e E (.slice (some ⟨g, 0, none⟩) l.length c) (l.set k u) → w.grownBy w' (some g) → w'.heap.size = w.heap.size → wpList P ops Q rest (a.put op.dst undef) w') : wpList P ops Q (op :: rest) a w := by
  have hcs : cells.size = size := by rw [← E.len u, hE, Array.length_toList]
  obtain ⟨s1, s2, s3⟩ := own_set hown hk u
  rw [hE] at s1 s2 s3
  refine wpList_store_mid hgd ty x y ho g (k * size) cells hx hy (by rw [hcs]; exact own_there hown hk) hi ?_ (h _ s1 s2 s3)
  refine Array.all_eq_true_iff_forall_mem.2 fun v hv => E.one u v ?_
  rw [hE]; simpa using hv
theorem own_set1 {α : Type} {E : Enc α 1} {w : World} {base : Nat} {e : TypeId} {l : List α} {g c : Nat} (h : Own w base e E (.slice (some ⟨g, 0, none⟩) l.length c) l) {k : Nat} (hk : k < l.length) (x : α) (u : Value) (hu : E.enc x = [u]) :
    Own (w.setCell ⟨g, k, none⟩ u) base e E (.slice (some ⟨g, 0, none⟩) l.length c) (l.set k x) ∧ w.grownBy (w.setCell ⟨g, k, none⟩ u) (some g) := by
  have := own_set h hk x
  rw [Nat.mul_one, hu] at this
  exact ⟨this.1, this.2.1⟩
/-- what is owned stays owned where a row of another type, or another block, was turned -/
theorem Own.setOther {g : Nat} {w' : World} {β : Type} {s2 : Nat} {E2 : Enc β s2} {base2 : Nat} {e2 : TypeId} {n2 c2 : Nat} {l2 : List β} (h : Own w base e E v l) (hg : w.grownBy w' (some g)) (h2 : Own w base2 e2 E2 (.slice (some ⟨g, 0, none⟩) n2 c2) l2) (hn2 : l2.length = n2) (hl2 : l2 ≠ []) (hne : e ≠ e2) : Own w' base e E v l := by
  subst hn2
  obtain ⟨g', cap, cur, hv, hb, hg', _⟩ := own_row h2 hl2
  injection hv with hv hv2 hv3
  injection hv with hv
  injection hv with hv
  subst hv
  exact h.grown hg (.inr fun e' => (h.ne_blk hg' hne) e'.symm)
theorem Own.setApart {g : Nat} {w' : World} (h : Own w base e E v l) (hg : w.grownBy w' (some g)) (hlt : g < base) : Own w' base e E v l := by
  refine h.grown hg ?_
  cases hv : v.ownBlock with
  | none => exact .inl rfl
  | some k => exact .inr fun e' => by injection e' with e'; have := (h.block_lt k hv).1; omega
/-- the cells of element i -/
theorem own_cells {g c : Nat} (h : Own w base e E (.slice (some ⟨g, 0, none⟩) l.length c) l) {i : Nat} (hi : i < l.length) (j : Nat) (u : Value) (hu : (E.enc l[i])[j]? = some u) : w.cell? ⟨g, i * size + j, none⟩ = some u := by
  obtain ⟨b, off, e1, _, hc⟩ := h.toRds.at_ hi
  injection e1 with e1
  injection e1 with e1 e2
  subst e1
  subst e2
  have := hc j u hu
  rwa [Nat.zero_add] at this
theorem own_some {A : Option Addr} {c : Nat} (h : Own w base e E (.slice A l.length c) l) (hl : l ≠ []) : ∃ g, A = some ⟨g, 0, none⟩ ∧ base ≤ g := by
  obtain ⟨g, cap, cur, hv, hb, _⟩ := own_row h hl
  injection hv with hv
  exact ⟨g, hv, hb⟩
theorem own_frozen {g n c : Nat} (h : Own w base e E (.slice (some ⟨g, 0, none⟩) n c) l) (hn : l.length = n) (hl : l ≠ []) (i : Nat) : w.frozen? ⟨g, i, none⟩ = false := by
  subst hn
  obtain ⟨g', cap, cur, hv, hb, hg, _⟩ := own_row h hl
  injection hv with hv
  injection hv with hv
  injection hv with hv
  subst hv
  exact hg.frozen i
/-- append([]T{}, l...) -/
theorem wl_copy {P : Program} {t : TypeId} {bytes : Nat} {w0 : World} (T : Elem P t e size bytes) (E : Enc α size) {ops : Array Oper} {rest : List Oper} {o : Oper} {a : Act} {Q : Exit → Act → World → Prop} (hgd : o.guard = none) (s x : Operand)
    (ho : o.op = .call { callee := .builtin .append, args := #[s, x], argTypes := #[t, t] })
    (hs : a.eval s = .slice (some ⟨w0.heap.size, 0, none⟩) 0 0)
    (A : Option Addr) (l2 : List α) (c : Nat) (hx : a.eval x = .slice A l2.length c) (hr : Rds w0 E A l2) (hb : l2.length * bytes ≤ 140737488355328) (h63 : l2.length ≤ 9223372036854775807)
    (h : ∀ A' c' w', Own w' w0.heap.size e E (.slice A' l2.length c') l2 → Below w0.heap.size w0 w' → wpList P ops Q rest (a.put o.dst (.slice A' l2.length c')) w') : wpList P ops Q (o :: rest) a (w0.alloc (.cells #[] e)) := by
  have hown0 : Own (w0.alloc (.cells #[] e)) w0.heap.size e E (.slice (some ⟨w0.heap.size, 0, none⟩) 0 0) [] := Own.made w0 w0.heap.size e E [] #[] rfl (Nat.le_refl _) (by simp)
  have hbel0 : Below w0.heap.size w0 (w0.alloc (.cells #[] e)) := (Below.refl _ _).alloc (Nat.le_refl _) _
  refine wl_app T E hgd s x ho w0.heap.size _ [] hs hown0 A l2 c hx (hr.below hbel0) (by simpa using hb) (by simpa using h63) (by simp) ?_
  intro A' c' w' h1 h2 _
  rw [List.length_nil, Nat.zero_add, List.nil_append] at h1
  rw [List.length_nil, Nat.zero_add]
  exact h A' c' w' h1 (hown0.belowGrown hbel0 h2 (Nat.le_refl _) hbel0.size)
end
end Go.Proofs.YtampjkgkiooibaaDoor
