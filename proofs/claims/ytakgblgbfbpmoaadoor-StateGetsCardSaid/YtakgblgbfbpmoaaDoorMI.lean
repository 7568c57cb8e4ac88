/- Several texts in one: Storing one element into a row of one's own; rows of one's own apart. state.at: where an Id stands in a sorted list, or would. copy, clear and append-of-make over a row that is known whole, at elements of any size; splices of lists. -/
import Derived.Outline
import Derived.Laws.IdiomCopy
import Derived.Lib.AppendZerosOnto
import Derived.Deep.RegionLaw
import Derived.Shelf.RegionOpenPlain
import Derived.Test.YtakgblgbfbpmoaaDoorMA
import Derived.Test.YtakgblgbfbpmoaaDoorMC
import Derived.Test.YtakgblgbfbpmoaaDoorMD
namespace Go.Proofs.YtakgblgbfbpmoaaDoor
open Go.RowKit

theorem take_splice {V : Type} (cur vs : List V) (o n : Nat) (h : o + vs.length ≤ n) (hn : n ≤ cur.length) : (cur.take o ++ vs ++ cur.drop (o + vs.length)).take n = (cur.take n).take o ++ vs ++ (cur.take n).drop (o + vs.length) := by
  obtain ⟨p, r, rfl, hp⟩ : ∃ p r, cur = p ++ r ∧ p.length = n := ⟨cur.take n, cur.drop n, (List.take_append_drop n cur).symm, by rw [List.length_take]; omega⟩
  have e1 : (p ++ r).take o = p.take o := List.take_append_of_le_length (by omega)
  have e2 : (p ++ r).drop (o + vs.length) = p.drop (o + vs.length) ++ r := List.drop_append_of_le_length (by omega)
  rw [e1, e2, ← List.append_assoc, List.take_left' (by simp; omega), List.take_left' hp]

section
variable {α : Type} {size : Nat}
theorem Enc.all_take (E : Enc α size) (l : List α) (k : Nat) (hk : k ≤ l.length) : E.all (l.take k) = (E.all l).take (k * size) := by
  have e : E.all l = E.all (l.take k) ++ E.all (l.drop k) := by rw [← E.all_append, List.take_append_drop]
  rw [e, List.take_left' (by rw [E.all_len, List.length_take, Nat.min_eq_left hk])]
theorem Enc.all_drop (E : Enc α size) (l : List α) (k : Nat) (hk : k ≤ l.length) : E.all (l.drop k) = (E.all l).drop (k * size) := by
  have e : E.all l = E.all (l.take k) ++ E.all (l.drop k) := by rw [← E.all_append, List.take_append_drop]
  rw [e, List.drop_left' (by rw [E.all_len, List.length_take, Nat.min_eq_left hk])]
theorem Enc.all_set (E : Enc α size) (l : List α) (k : Nat) (x : α) (hk : k < l.length) : E.all (l.set k x) = (E.all l).take (k * size) ++ E.enc x ++ (E.all l).drop (k * size + size) := by
  rw [List.set_eq_take_append_cons_drop, if_pos hk, E.all_append, E.all_cons, E.all_take l k (by omega), E.all_drop l (k + 1) (by omega), Nat.add_mul, Nat.one_mul, List.append_assoc]

variable {E : Enc α size} {w : World} {base : Nat} {e : TypeId} {v : Value} {l : List α}
theorem own_row (h : Own w base e E v l) (hl : l ≠ []) : ∃ g cap cur, v = .slice (some ⟨g, 0, none⟩) l.length cap ∧ base ≤ g ∧ Blk w g e cur ∧ l.length ≤ cap ∧ cap ≤ maxLen ∧ cur.size = cap * size ∧ cur.toList.take (l.length * size) = E.all l := by
  rcases h.2 with ⟨rfl, h0⟩ | ⟨g, cap, cur, rfl, hb, hg, hn, hm, hcs, ht⟩
  · exact absurd (List.eq_nil_of_length_eq_zero h0) hl
  · exact ⟨g, cap, cur, rfl, hb, hg, hn, hm, hcs, ht⟩
/-- element k turned -/
theorem own_set {g c : Nat} (h : Own w base e E (.slice (some ⟨g, 0, none⟩) l.length c) l) {k : Nat} (hk : k < l.length) (x : α) :
    Own (w.setCells g (k * size) (E.enc x)) base e E (.slice (some ⟨g, 0, none⟩) l.length c) (l.set k x) ∧ w.grownBy (w.setCells g (k * size) (E.enc x)) (some g) ∧ (w.setCells g (k * size) (E.enc x)).heap.size = w.heap.size := by
  obtain ⟨g', cap, cur, hv, hb, hg, hn, hm, hcs, ht⟩ := own_row h (by intro e; subst e; simp at hk)
  injection hv with hv hv2 hv3
  injection hv with hv
  injection hv with hv
  subst hv
  subst hv3
  have hp := E.pos
  have h1 : (k + 1) * size ≤ l.length * size := Nat.mul_le_mul_right _ hk
  have h2 : l.length * size ≤ c * size := Nat.mul_le_mul_right _ hn
  have h3 : k * size + size ≤ l.length * size := by rwa [Nat.add_mul, Nat.one_mul] at h1
  have hcl : cur.toList.length = c * size := by rw [Array.length_toList]; exact hcs
  obtain ⟨s1, s2, s3⟩ := setCells_blk g e (E.enc x) (k * size) w cur.toList (by rw [E.len, hcl]; omega) (by simpa using hg)
  have hln : (l.set k x).length = l.length := List.length_set
  have key : Own (w.setCells g (k * size) (E.enc x)) base e E (.slice (some ⟨g, 0, none⟩) (l.set k x).length c) (l.set k x) := ⟨E.all_len _, .inr ⟨g, c, _, rfl, hb, s1, by omega, hm, ?_, ?_⟩⟩
  · rw [hln] at key
    exact ⟨key, s2, s3⟩
  · rw [List.size_toArray, List.length_append, List.length_append, List.length_take, List.length_drop, E.len, hcl]; omega
  · have e1 : (E.enc x).length = size := E.len x
    have ts := take_splice cur.toList (E.enc x) (k * size) (l.length * size) (by rw [e1]; exact h3) (by rw [hcl]; exact h2)
    rw [ht, e1] at ts
    rw [hln, E.all_set l k x hk, e1]
    exact ts
theorem own_there {g c : Nat} (h : Own w base e E (.slice (some ⟨g, 0, none⟩) l.length c) l) {k : Nat} (hk : k < l.length) : w.there g (k * size) size := by
  obtain ⟨g', cap, cur, hv, hb, hg, hn, hm, hcs, ht⟩ := own_row h (by intro e; subst e; simp at hk)
  injection hv with hv hv2 hv3
  injection hv with hv
  injection hv with hv
  subst hv
  subst hv3
  have h1 : (k + 1) * size ≤ l.length * size := Nat.mul_le_mul_right _ hk
  have h2 : l.length * size ≤ c * size := Nat.mul_le_mul_right _ hn
  rw [Nat.add_mul, Nat.one_mul] at h1
  intro j hj
  exact ⟨by rw [hg.cell, Array.getElem?_eq_getElem (by omega)]; rfl, hg.frozen _⟩

/-- a struct stored at element k -/
theorem wl_store_own {P : Program} {ops : Array Oper} {rest : List Oper} {op : Oper} {a : Act} {Q : Exit → Act → World → Prop} (hgd : op.guard = none) (ty : TypeId) (x y : Operand) (ho : op.op = .store ty x y)
    (g c : Nat) {k : Nat} (u : α) (cells : Array Value) (hx : a.eval x = .pointer (some ⟨g, k * size, none⟩)) (hy : a.eval y = .agg cells)
    (hown : Own w base e E (.slice (some ⟨g, 0, none⟩) l.length c) l) (hk : k < l.length) (hE : E.enc u = cells.toList) (hi : (P.info? ty).map (·.size) = some cells.size)
    (h : ∀ w', Own w' base e E (.slice (some ⟨g, 0, none⟩) l.length c) (l.set k u) → w.grownBy w' (some g) → w'.heap.size = w.heap.size → wpList P ops Q rest (a.put op.dst undef) w') : wpList P ops Q (op :: rest) a w := by
  have hcs : cells.size = size := by rw [← E.len u, hE, Array.length_toList]
  obtain ⟨s1, s2, s3⟩ := own_set hown hk u
  rw [hE] at s1 s2 s3
  refine wpList_store_mid hgd ty x y ho g (k * size) cells hx hy (by rw [hcs]; exact own_there hown hk) hi ?_ (h _ s1 s2 s3)
  refine Array.all_eq_true_iff_forall_mem.2 fun v hv => E.one u v ?_
  rw [hE]; simpa using hv
theorem own_set1 {α : Type} {E : Enc α 1} {w : World} {base : Nat} {e : TypeId} {l : List α} {g c : Nat} (h : Own w base e E (.slice (some ⟨g, 0, none⟩) l.length c) l) {k : Nat} (hk : k < l.length) (x : α) (u : Value) (hu : E.enc x = [u]) :
    Own (w.setCell ⟨g, k, none⟩ u) base e E (.slice (some ⟨g, 0, none⟩) l.length c) (l.set k x) ∧ w.grownBy (w.setCell ⟨g, k, none⟩ u) (some g) := by
  have := own_set h hk x
  rw [Nat.mul_one, hu] at this
  exact ⟨this.1, this.2.1⟩
/-- what is owned stays owned where a row of another type, or another block, was turned -/
theorem Own.setOther {g : Nat} {w' : World} {β : Type} {s2 : Nat} {E2 : Enc β s2} {base2 : Nat} {e2 : TypeId} {n2 c2 : Nat} {l2 : List β} (h : Own w base e E v l) (hg : w.grownBy w' (some g)) (h2 : Own w base2 e2 E2 (.slice (some ⟨g, 0, none⟩) n2 c2) l2) (hn2 : l2.length = n2) (hl2 : l2 ≠ []) (hne : e ≠ e2) : Own w' base e E v l := by
  subst hn2
  obtain ⟨g', cap, cur, hv, hb, hg', _⟩ := own_row h2 hl2
  injection hv with hv hv2 hv3
  injection hv with hv
  injection hv with hv
  subst hv
  exact h.grown hg (.inr fun e' => (h.ne_blk hg' hne) e'.symm)
theorem Own.setApart {g : Nat} {w' : World} (h : Own w base e E v l) (hg : w.grownBy w' (some g)) (hlt : g < base) : Own w' base e E v l := by
  refine h.grown hg ?_
  cases hv : v.ownBlock with
  | none => exact .inl rfl
  | some k => exact .inr fun e' => by injection e' with e'; have := (h.block_lt k hv).1; omega
/-- the cells of element i -/
theorem own_cells {g c : Nat} (h : Own w base e E (.slice (some ⟨g, 0, none⟩) l.length c) l) {i : Nat} (hi : i < l.length) (j : Nat) (u : Value) (hu : (E.enc l[i])[j]? = some u) : w.cell? ⟨g, i * size + j, none⟩ = some u := by
  obtain ⟨b, off, e1, _, hc⟩ := h.toRds.at_ hi
  injection e1 with e1
  injection e1 with e1 e2
  subst e1
  subst e2
  have := hc j u hu
  rwa [Nat.zero_add] at this
theorem own_some {A : Option Addr} {c : Nat} (h : Own w base e E (.slice A l.length c) l) (hl : l ≠ []) : ∃ g, A = some ⟨g, 0, none⟩ ∧ base ≤ g := by
  obtain ⟨g, cap, cur, hv, hb, _⟩ := own_row h hl
  injection hv with hv
  exact ⟨g, hv, hb⟩
theorem own_frozen {g n c : Nat} (h : Own w base e E (.slice (some ⟨g, 0, none⟩) n c) l) (hn : l.length = n) (hl : l ≠ []) (i : Nat) : w.frozen? ⟨g, i, none⟩ = false := by
  subst hn
  obtain ⟨g', cap, cur, hv, hb, hg, _⟩ := own_row h hl
  injection hv with hv
  injection hv with hv
  injection hv with hv
  subst hv
  exact hg.frozen i
/-- append([]T{}, l...) -/
theorem wl_copy {P : Program} {t : TypeId} {bytes : Nat} {w0 : World} (T : Elem P t e size bytes) (E : Enc α size) {ops : Array Oper} {rest : List Oper} {o : Oper} {a : Act} {Q : Exit → Act → World → Prop} (hgd : o.guard = none) (s x : Operand)
    (ho : o.op = .call { callee := .builtin .append, args := #[s, x], argTypes := #[t, t] })
    (hs : a.eval s = .slice (some ⟨w0.heap.size, 0, none⟩) 0 0)
    (A : Option Addr) (l2 : List α) (c : Nat) (hx : a.eval x = .slice A l2.length c) (hr : Rds w0 E A l2) (hb : l2.length * bytes ≤ 140737488355328) (h63 : l2.length ≤ 9223372036854775807)
    (h : ∀ A' c' w', Own w' w0.heap.size e E (.slice A' l2.length c') l2 → Below w0.heap.size w0 w' → wpList P ops Q rest (a.put o.dst (.slice A' l2.length c')) w') : wpList P ops Q (o :: rest) a (w0.alloc (.cells #[] e)) := by
  have hown0 : Own (w0.alloc (.cells #[] e)) w0.heap.size e E (.slice (some ⟨w0.heap.size, 0, none⟩) 0 0) [] := Own.made w0 w0.heap.size e E [] #[] rfl (Nat.le_refl _) (by simp)
  have hbel0 : Below w0.heap.size w0 (w0.alloc (.cells #[] e)) := (Below.refl _ _).alloc (Nat.le_refl _) _
  refine wl_app T E hgd s x ho w0.heap.size _ [] hs hown0 A l2 c hx (hr.below hbel0) (by simpa using hb) (by simpa using h63) (by simp) ?_
  intro A' c' w' h1 h2 _
  rw [List.length_nil, Nat.zero_add, List.nil_append] at h1
  rw [List.length_nil, Nat.zero_add]
  exact h A' c' w' h1 (hown0.belowGrown hbel0 h2 (Nat.le_refl _) hbel0.size)
end
end Go.Proofs.YtakgblgbfbpmoaaDoor

namespace Go.Proofs.YtakgblgbfbpmoaaDoor
open Go.RowKit

def SortedN (l : List En) : Prop := ∀ (i j : Nat) (_ : i < j) (hj : j < l.length), blt (l[i]'(by omega)).pod.id l[j].pod.id = true
def lowerI (l : List En) (s : ByteArray) : Nat := l.countP fun x => blt x.pod.id s
def isAt (l : List En) (s : ByteArray) : Bool := match l[lowerI l s]? with | some x => x.pod.id.toList == s.toList | none => false
theorem lowerI_le (l : List En) (s : ByteArray) : lowerI l s ≤ l.length := List.countP_le_length
theorem countP_bound {α : Type} (p : α → Bool) : ∀ (l : List α) (i : Nat), i ≤ l.length → (∀ (t : Nat) (ht : t < l.length), t < i → p l[t] = true) → (∀ (t : Nat) (ht : t < l.length), i ≤ t → p l[t] = false) → l.countP p = i
  | [], i, hi, _, _ => by simp at hi; simp [hi]
  | a :: r, 0, _, _, h2 => by
    rw [List.countP_eq_zero]
    intro x hx
    obtain ⟨t, ht, rfl⟩ := List.getElem_of_mem hx
    simp [h2 t ht (Nat.zero_le _)]
  | a :: r, i + 1, hi, h1, h2 => by
    have ha : p a = true := h1 0 (by simp) (Nat.succ_pos _)
    rw [List.countP_cons_of_pos ha, countP_bound p r i (by simpa using hi) (fun t ht h => h1 (t + 1) (by simpa using ht) (by omega)) (fun t ht h => h2 (t + 1) (by simpa using ht) (by omega))]
/-- what the search knows: below a all are less, from b on none is -/
structure Srch (l : List En) (s : ByteArray) (a b : Nat) : Prop where
  le : a ≤ b
  top : b ≤ l.length
  lo : ∀ (t : Nat) (ht : t < l.length), t < a → blt l[t].pod.id s = true
  hi : ∀ (t : Nat) (ht : t < l.length), b ≤ t → blt l[t].pod.id s = false
theorem Srch.start (l : List En) (s : ByteArray) : Srch l s 0 l.length := ⟨Nat.zero_le _, Nat.le_refl _, fun t _ h => by omega, fun t h h2 => by omega⟩
theorem Srch.up {l : List En} {s : ByteArray} {a b h : Nat} (hs : SortedN l) (hS : Srch l s a b) (hb : h < b) (hl : h < l.length) (hc : blt l[h].pod.id s = true) : Srch l s (h + 1) b := by
  refine ⟨by omega, hS.top, fun t ht hlt => ?_, hS.hi⟩
  rcases Nat.lt_or_ge t h with h1 | h1
  · exact blt_trans (hs t h h1 hl) hc
  · obtain rfl : t = h := by omega
    exact hc
theorem Srch.down {l : List En} {s : ByteArray} {a b h : Nat} (hs : SortedN l) (hS : Srch l s a b) (ha : a ≤ h) (hb : h < b) (hl : h < l.length) (hc : blt l[h].pod.id s = false) : Srch l s a h := by
  refine ⟨ha, by omega, hS.lo, fun t ht hge => ?_⟩
  rcases Nat.lt_or_ge h t with h1 | h1
  · cases h2 : blt l[t].pod.id s
    · rfl
    · rw [blt_trans (hs h t h1 ht) h2] at hc; cases hc
  · obtain rfl : t = h := by omega
    exact hc
theorem Srch.done {l : List En} {s : ByteArray} {a : Nat} (hS : Srch l s a a) : lowerI l s = a := countP_bound _ l a hS.top hS.lo hS.hi
theorem cmp_lt (a b : ByteArray) : (Lib.compareBytes a.data.toList b.data.toList < 0) = (blt a b = true) := by
  rw [blt_eq, decide_eq_true_eq]; exact propext (cmpB_lt _ _).1
theorem cmp_eq (a b : ByteArray) : (Lib.compareBytes a.data.toList b.data.toList = 0) = ((a.toList == b.toList) = true) := by
  rw [beq_iff_eq, ByteArray.toList_eq, ByteArray.toList_eq]; exact propext (cmpB_lt _ _).2

theorem closureAt (x : En) (s : ByteArray) (W : World) : Calls Tryd.prog 53 #[.agg #[.string x.pod.id, .int .i64 x.pod.prio, .bool x.pod.crit, .int .i64 x.pod.q0, .int .i64 x.pod.q1, .int .i64 x.pod.q2, .int .i64 x.pod.l0, .int .i64 x.pod.l1, .int .i64 x.pod.l2, .string x.pod.image, .int .i64 x.pod.size, .int .i64 x.phase], .string s] W fun e w' => e = .returned (.int .i64 (Lib.compareBytes x.pod.id.data.toList s.data.toList)) ∧ Below W.heap.size W w' := by
  have h2 := fun W' => strcmp_any x.pod.id s W'
  generalize Lib.compareBytes x.pod.id.data.toList s.data.toList = r2 at *
  have H2 := Lib.hid h2
  clear h2
  have HB := Lib.hid ((Below.refl W.heap.size W).alloc (Nat.le_refl _) (.cells #[.string x.pod.id, .int .i64 x.pod.prio, .bool x.pod.crit, .int .i64 x.pod.q0, .int .i64 x.pod.q1, .int .i64 x.pod.q2, .int .i64 x.pod.l0, .int .i64 x.pod.l1, .int .i64 x.pod.l2, .string x.pod.image, .int .i64 x.pod.size, .int .i64 x.phase] 46))
  go_enter Tryd.func53, Tryd.ntmps53
  go_wp2_with fail
  refine (H2.out _).mono ?_; rintro e w' ⟨rfl, rfl⟩
  go_wp2_with fail
  go_ret
  exact ⟨rfl, HB.out⟩

set_option maxHeartbeats 1000000 in
theorem bsearch_any (l : List En) (s : ByteArray) (A : Option Addr) (c : Nat) (w : World) (hr : Rds w encN A l) (hm : l.length ≤ 1000000) (hs : SortedN l) :
    Calls Tryd.prog 52 #[.slice A l.length c, .string s, .func (.func 53) #[] #[]] w fun e w' => e = .returned (.tuple #[.int .i64 (lowerI l s), .bool (isAt l s)]) ∧ Below w.heap.size w w' := by
  have HR := Lib.hid hr
  have HS := Lib.hid hs
  clear hr hs
  go_enter Tryd.func52, Tryd.ntmps52
  go_wp2_with fail
  go_loopw [9, 10] (fun i j wr => ∃ a b : Nat, i = .int .i64 a ∧ j = .int .i64 b ∧ Srch l s a b ∧ Below w.heap.size w wr) (fun i j _ => ((intOf j).toNat - (intOf i).toNat))
  case atStart => exact ⟨0, l.length, rfl, rfl, Srch.start l s, Below.refl _ _⟩
  case round =>
    obtain ⟨a, b, rfl, rfl, hS, hB⟩ := hrel
    have hle := hS.le
    have htop := hS.top
    have HQ := Lib.hid (And.intro hS hB)
    clear hS hB
    by_cases hlt : a < b
    · obtain ⟨h, hh⟩ : ∃ h : Nat, h = (a + b) / 2 := ⟨_, rfl⟩
      have hha : a ≤ h := by omega
      have hhb : h < b := by omega
      have hhl : h < l.length := by omega
      have dk : decide ((a : Int) < (b : Int)) = true := decide_eq_true (by omega)
      have dkn : decide (a < b) = true := decide_eq_true (by omega)
      have dk2 : (h : Int) < (l.length : Int) := by omega
      obtain ⟨n, hn⟩ : ∃ n : Nat, n = a + b := ⟨_, rfl⟩
      have e0 : (a : Int) + (b : Int) = (n : Int) := by omega
      have e1 : wrap64 ((a : Int) + (b : Int)) = (n : Int) := by unfold wrap64; omega
      have e2 : IntKind.u64.wrap (n : Int) = (n : Int) := by rw [IntKind.wrap_u64]; omega
      have e3 : (n : Int) / 2 = (h : Int) := by omega
      have e4 : wrap64 (h : Int) = (h : Int) := by unfold wrap64; omega
      obtain ⟨b0, off, rfl, hb0, c0, c1, c2, c3, c4, c5, c6, c7, c8, c9, c10, c11⟩ := (HR.out.below HQ.out.2).en hhl
      have HC0 := Lib.hid (cmp_lt l[h].pod.id s)
      have HUP := Lib.hid (fun hc => HQ.out.1.up HS.out hhb hhl hc)
      have HDN := Lib.hid (fun hc => HQ.out.1.down HS.out hha hhb hhl hc)
      generalize l[h] = x at *
      have HCL := Lib.hid (fun W' => closureAt x s W')
      generalize Lib.compareBytes x.pod.id.data.toList s.data.toList = r at *
      clear hh hn
      cases he : blt x.pod.id s
      · have d0 : decide (r < 0) = false := decide_eq_false (by rw [HC0.out, he]; simp)
        have HV := Lib.hid (HDN.out he)
        clear he
        go_wp2_with fail
        refine (HCL.out _).mono ?_; rintro e w' ⟨rfl, hbw⟩
        have HB := Lib.hid (HQ.out.2.trans (hbw.mono HQ.out.2.size))
        clear hbw
        go_wp2_with fail
        go_roundw
        case rel => exact ⟨a, h, rfl, rfl, HV.out, HB.out⟩
        case measure => simp [intOf]; omega
      · have d0 : decide (r < 0) = true := decide_eq_true (by rw [HC0.out, he])
        have HV := Lib.hid (HUP.out he)
        clear he
        go_wp2_with fail
        refine (HCL.out _).mono ?_; rintro e w' ⟨rfl, hbw⟩
        have HB := Lib.hid (HQ.out.2.trans (hbw.mono HQ.out.2.size))
        clear hbw
        go_wp2_with fail
        go_roundw
        case rel => exact ⟨h + 1, b, by go_num, rfl, HV.out, HB.out⟩
        case measure => simp [intOf]; omega
    · obtain rfl : a = b := by omega
      have HL := Lib.hid (HQ.out.1.done)
      have dk : decide ((a : Int) < (a : Int)) = false := by simp
      by_cases hal : a < l.length
      · have dl : decide ((a : Int) < (l.length : Int)) = true := decide_eq_true (by omega)
        have dl2 : (a : Int) < (l.length : Int) := by omega
        obtain ⟨b0, off, rfl, hb0, c0, c1, c2, c3, c4, c5, c6, c7, c8, c9, c10, c11⟩ := (HR.out.below HQ.out.2).en hal
        have HAT := Lib.hid (show isAt l s = (l[a].pod.id.toList == s.toList) by unfold isAt; rw [HL.out, List.getElem?_eq_getElem hal])
        have HC0 := Lib.hid (cmp_eq l[a].pod.id s)
        generalize l[a] = x at *
        have HCL := Lib.hid (fun W' => closureAt x s W')
        generalize Lib.compareBytes x.pod.id.data.toList s.data.toList = r at *
        cases he : (x.pod.id.toList == s.toList)
        · have d0 : (r == 0) = false := beq_eq_false_iff_ne.2 (fun h => by rw [HC0.out, he] at h; cases h)
          have HV := Lib.hid (show isAt l s = false by rw [HAT.out, he])
          clear he
          go_wp2_with fail
          refine (HCL.out _).mono ?_; rintro e w' ⟨rfl, hbw⟩
          have HB := Lib.hid (HQ.out.2.trans (hbw.mono HQ.out.2.size))
          clear hbw
          go_wp2_with fail
          go_ret2
          exact ⟨by rw [HL.out, HV.out] <;> rfl, HB.out⟩
        · have d0 : (r == 0) = true := beq_iff_eq.2 (by rw [HC0.out, he])
          have HV := Lib.hid (show isAt l s = true by rw [HAT.out, he])
          clear he
          go_wp2_with fail
          refine (HCL.out _).mono ?_; rintro e w' ⟨rfl, hbw⟩
          have HB := Lib.hid (HQ.out.2.trans (hbw.mono HQ.out.2.size))
          clear hbw
          go_wp2_with fail
          go_ret2
          exact ⟨by rw [HL.out, HV.out] <;> rfl, HB.out⟩
      · have dl : decide ((a : Int) < (l.length : Int)) = false := decide_eq_false (by omega)
        have HV := Lib.hid (show isAt l s = false by unfold isAt; rw [HL.out, List.getElem?_eq_none (by omega)])
        go_wp2_with fail
        go_ret2
        exact ⟨by rw [HL.out, HV.out] <;> rfl, HQ.out.2⟩
end Go.Proofs.YtakgblgbfbpmoaaDoor

namespace Go.Proofs.YtakgblgbfbpmoaaDoor
open Go.RowKit

section
variable {V : Type}
theorem two_up (cur xs ds : List V) (p : Nat) (h : p + xs.length + ds.length ≤ cur.length) :
    ((cur.take p ++ xs ++ cur.drop (p + xs.length)).take (p + xs.length) ++ ds ++ (cur.take p ++ xs ++ cur.drop (p + xs.length)).drop (p + xs.length + ds.length)).take (p + xs.length + ds.length) = cur.take p ++ xs ++ ds := by
  have e1 : (cur.take p ++ xs ++ cur.drop (p + xs.length)).take (p + xs.length) = cur.take p ++ xs := List.take_left' (by rw [List.length_append, List.length_take]; omega)
  rw [e1]
  exact List.take_left' (by rw [List.length_append, List.length_append, List.length_take]; omega)
theorem two_down (cur xs ds : List V) (p : Nat) (h : p + xs.length + ds.length ≤ cur.length) :
    ((cur.take (p + xs.length) ++ ds ++ cur.drop (p + xs.length + ds.length)).take p ++ xs ++ (cur.take (p + xs.length) ++ ds ++ cur.drop (p + xs.length + ds.length)).drop (p + xs.length)).take (p + xs.length + ds.length) = cur.take p ++ xs ++ ds := by
  have e1 : (cur.take (p + xs.length) ++ ds ++ cur.drop (p + xs.length + ds.length)).take p = cur.take p := by
    rw [List.append_assoc, List.take_append_of_le_length (by rw [List.length_take]; omega), List.take_take, Nat.min_eq_left (by omega)]
  have e2 : (cur.take (p + xs.length) ++ ds ++ cur.drop (p + xs.length + ds.length)).drop (p + xs.length) = ds ++ cur.drop (p + xs.length + ds.length) := by
    rw [List.append_assoc]; exact List.drop_left' (by rw [List.length_take]; omega)
  rw [e1, e2, ← List.append_assoc]
  exact List.take_left' (by rw [List.length_append, List.length_append, List.length_take]; omega)
theorem splice_len (cur vs : List V) (o : Nat) (h : o + vs.length ≤ cur.length) : (cur.take o ++ vs ++ cur.drop (o + vs.length)).length = cur.length := by
  rw [List.length_append, List.length_append, List.length_take, List.length_drop]; omega
end

section
variable {P : Program}
theorem run_copyK (w : World) (dT sT ty elem : TypeId) (size b o dLen dCap : Nat) (a : Addr) (sLen sCap n : Nat) (cs : List Value)
    (hu : P.underlying dT = some (.slice elem)) (hs : (P.info? elem).map (·.size) = some size) (hnn : Nat.min sLen dLen = n) (hn : cs.length = n * size)
    (hsrc : ∀ j v, cs[j]? = some v → w.cell? (a.add j) = some v) (hc : ∀ j, j < cs.length → (w.cell? ⟨b, o + j, none⟩).isSome = true) (hf : ∀ j, j < cs.length → w.frozen? ⟨b, o + j, none⟩ = false) (h1 : ∀ v ∈ cs, v.oneCell' = true) :
    (Builtin.copy_ #[dT, sT] ty #[.slice (some ⟨b, o, none⟩) dLen dCap, .slice (some a) sLen sCap]).run P w = .ok (goInt n) (w.setCells b o cs) := by
  have hl := run_loadCells_list (P := P) w a cs hsrc
  have hst := run_storeCells_cells (P := P) b o cs 0 w (by simpa using hc) (by simpa using hf) h1
  cases hq : P.info? elem with
  | none => simp [hq] at hs
  | some i =>
    have hi : i.size = size := by simpa [hq] using hs
    simp [Builtin.copy_, run_underlying hu, Builtin.lenOf, Builtin.firstCells, sizeOf, typeInfo, hq, hi, hnn, ← hn, hl, hst]
/-- copy into a row that is known whole -/
theorem copy_blk (w : World) (dT sT ty elem t : TypeId) (size g o dLen dCap : Nat) (a : Addr) (sLen sCap n : Nat) (cur cs : List Value) (hb : Blk w g t cur.toArray) (hfit : o + cs.length ≤ cur.length)
    (hu : P.underlying dT = some (.slice elem)) (hs : (P.info? elem).map (·.size) = some size) (hnn : Nat.min sLen dLen = n) (hn : cs.length = n * size)
    (hsrc : ∀ j v, cs[j]? = some v → w.cell? (a.add j) = some v) (h1 : ∀ v ∈ cs, v.oneCell' = true) :
    ∃ w', (Builtin.copy_ #[dT, sT] ty #[.slice (some ⟨g, o, none⟩) dLen dCap, .slice (some a) sLen sCap]).run P w = .ok (goInt n) w' ∧ Blk w' g t (cur.take o ++ cs ++ cur.drop (o + cs.length)).toArray ∧ w.grownBy w' (some g) ∧ w'.heap.size = w.heap.size := by
  obtain ⟨h2, h3, h4⟩ := setCells_blk g t cs o w cur hfit hb
  refine ⟨_, run_copyK w dT sT ty elem size g o dLen dCap a sLen sCap n cs hu hs hnn hn hsrc (fun j hj => ?_) (fun j _ => hb.frozen _) h1, h2, h3, h4⟩
  rw [hb.cell, List.getElem?_toArray, List.getElem?_eq_getElem (by omega)]; rfl
theorem wl_copy_run {w : World} {ops : Array Oper} {rest : List Oper} {o : Oper} {a : Act} {Q : Exit → Act → World → Prop} (hgd : o.guard = none) (d s : Operand) (t t' : TypeId)
    (ho : o.op = .call { callee := .builtin .copy, args := #[d, s], argTypes := #[t, t'] }) (v u : Value) (hd : a.eval d = v) (hs : a.eval s = u) {v' : Value} {w' : World}
    (hr : (Builtin.copy_ #[t, t'] o.type #[v, u]).run P w = .ok v' w') (h : wpList P ops Q rest (a.put o.dst v') w') : wpList P ops Q (o :: rest) a w :=
  wpList_plain hgd fun K hK => by
    show o.wp P a w K Q
    unfold Oper.wp execOp
    simp only [ho, resolve, invoke, builtin, Sem.run_bind, Sem.run_pure, Result.andThen_ok, List.map_toArray, List.map_cons, List.map_nil, hd, hs, hr]
    exact hK _ _ h
theorem step_copy_run {ops : Array Oper} {o : Oper} {a : Act} {w : World} {K : Act → World → Prop} {Q : Exit → Act → World → Prop} {X : Prop}
    (hg : o.guard = none) (d x : Operand) (dT sT : TypeId) (hop : o.op = Op.call { callee := Callee.builtin Builtin.copy, args := #[d, x], argTypes := #[dT, sT] })
    (v u : Value) (hd : a.eval d = v) (hx : a.eval x = u) {v' : Value} {w' : World} (hr : (Builtin.copy_ #[dT, sT] o.type #[v, u]).run P w = .ok v' w') (hK : K (a.put o.dst v') w') :
    if Region.wanted o (yielded ops a.tmps) = true then Oper.wp P o a w K Q else X := by
  have hw : Region.wanted o (yielded ops a.tmps) = true := by simp [Region.wanted, hg]
  rw [if_pos hw]
  unfold Oper.wp
  simp [execOp, hop, resolve, invoke, builtin, hd, hx, hr, Result.andThen]
  exact hK
theorem step_append_run {ops : Array Oper} {o : Oper} {a : Act} {w : World} {K : Act → World → Prop} {Q : Exit → Act → World → Prop} {X : Prop}
    (hg : o.guard = none) (d x : Operand) (dT sT : TypeId) (hop : o.op = Op.call { callee := Callee.builtin Builtin.append, args := #[d, x], argTypes := #[dT, sT] })
    (v u : Value) (hd : a.eval d = v) (hx : a.eval x = u) {v' : Value} {w' : World} (hr : (Builtin.append_ #[dT, sT] o.type #[v, u]).run P w = .ok v' w') (hK : K (a.put o.dst v') w') :
    if Region.wanted o (yielded ops a.tmps) = true then Oper.wp P o a w K Q else X := by
  have hw : Region.wanted o (yielded ops a.tmps) = true := by simp [Region.wanted, hg]
  rw [if_pos hw]
  unfold Oper.wp
  simp [execOp, hop, resolve, invoke, builtin, hd, hx, hr, Result.andThen]
  exact hK
theorem wl_clear_run {w : World} {ops : Array Oper} {rest : List Oper} {o : Oper} {a : Act} {Q : Exit → Act → World → Prop} (hgd : o.guard = none) (s : Operand) (t : TypeId)
    (ho : o.op = .call { callee := .builtin .clear, args := #[s], argTypes := #[t] }) (v : Value) (hs : a.eval s = v) {v' : Value} {w' : World}
    (hr : (Builtin.clear_ #[t] o.type #[v]).run P w = .ok v' w') (h : wpList P ops Q rest (a.put o.dst v') w') : wpList P ops Q (o :: rest) a w :=
  wpList_plain hgd fun K hK => by
    show o.wp P a w K Q
    unfold Oper.wp execOp
    simp only [ho, resolve, invoke, builtin, Sem.run_bind, Sem.run_pure, Result.andThen_ok, List.map_toArray, List.map_cons, List.map_nil, hs, hr]
    exact hK _ _ h
theorem wl_append_run {w : World} {ops : Array Oper} {rest : List Oper} {o : Oper} {a : Act} {Q : Exit → Act → World → Prop} (hgd : o.guard = none) (s x : Operand) (t t' : TypeId)
    (ho : o.op = .call { callee := .builtin .append, args := #[s, x], argTypes := #[t, t'] }) (v u : Value) (hd : a.eval s = v) (hs : a.eval x = u) {v' : Value} {w' : World}
    (hr : (Builtin.append_ #[t, t'] o.type #[v, u]).run P w = .ok v' w') (h : wpList P ops Q rest (a.put o.dst v') w') : wpList P ops Q (o :: rest) a w :=
  wpList_plain hgd fun K hK => by
    show o.wp P a w K Q
    unfold Oper.wp execOp
    simp only [ho, resolve, invoke, builtin, Sem.run_bind, Sem.run_pure, Result.andThen_ok, List.map_toArray, List.map_cons, List.map_nil, hd, hs, hr]
    exact hK _ _ h
/-- clear of a part of a row that is known whole -/
theorem clear_blk (w : World) (t ty e te : TypeId) (i : TypeInfo) (z : Value) (hu : P.underlying t = some (.slice e)) (hi : P.info? e = some i) (hz : i.zero = some z) (hz1 : ∀ v ∈ z.cells.toList, v.oneCell' = true) (hzs : 0 < z.cells.size)
    (g o n c : Nat) (hn : 0 < n) (cur : List Value) (hb : Blk w g te cur.toArray) (hfit : o + n * z.cells.size ≤ cur.length) :
    ∃ w' zs, (Builtin.clear_ #[t] ty #[.slice (some ⟨g, o, none⟩) n c]).run P w = .ok (.tuple #[]) w' ∧ zs.length = n * z.cells.size ∧ Blk w' g te (cur.take o ++ zs ++ cur.drop (o + n * z.cells.size)).toArray ∧ w.grownBy w' (some g) ∧ w'.heap.size = w.heap.size := by
  have hlen : (Builtin.zeroCells z.cells n).toList.length = n * z.cells.size := by rw [Array.length_toList, size_zeroCells]
  have hone : ∀ v ∈ (Builtin.zeroCells z.cells n).toList, v.oneCell' = true := by
    intro v hv
    obtain ⟨k, hk, rfl⟩ := List.getElem_of_mem hv
    rw [Array.getElem_toList]
    simp only [Builtin.zeroCells, Array.getElem_map, Array.getElem_range]
    refine hz1 _ ?_
    rw [getElem!_pos z.cells _ (Nat.mod_lt _ hzs)]
    simp
  obtain ⟨h2, h3, h4⟩ := setCells_blk g te (Builtin.zeroCells z.cells n).toList o w cur (by rw [hlen]; exact hfit) hb
  have hst := run_storeCells_cells (P := P) g o (Builtin.zeroCells z.cells n).toList 0 w (fun j hj => by
    rw [hlen] at hj
    rw [Nat.add_zero, hb.cell, List.getElem?_toArray, List.getElem?_eq_getElem (by omega)]; rfl) (fun j _ => hb.frozen _) hone
  refine ⟨_, (Builtin.zeroCells z.cells n).toList, ?_, hlen, by rw [← hlen]; exact h2, h3, h4⟩
  cases n with
  | zero => omega
  | succ n =>
    simp only [Nat.add_zero] at hst
    simp [Builtin.clear_, run_underlying hu, zeroValue, typeInfo, hi, hz, hst]
end
end Go.Proofs.YtakgblgbfbpmoaaDoor
