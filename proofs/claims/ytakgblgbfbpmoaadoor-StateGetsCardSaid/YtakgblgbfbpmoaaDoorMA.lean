/- Several texts in one: Plain words on memory, over any program: what a slice reads as (Rds), what a value owns (Own), a block that is known whole (Blk); the append laws in those words. The saturating sum: the program's sat.Add and the reference's bilgeref01.Add both give satAdd. Texts: their order, and the words of slices of texts; SameTexts. -/
import Derived.WalkKit
import Derived.WalkSpells
import Derived.WalkLawsBesides
import Derived.WalkSmall
import Derived.Lib.Hide
import Derived.Lib.AppendStr
import Derived.Maps.AppendAt
import Derived.Deep.AppendLies
import Derived.Deep.MidRow
import Derived.BigQuiet
import Derived.Deep.QuietTactic
import Derived.Sort.Walk0
import Derived.Test.YtakgblgbfbpmoaaDoorProg
namespace Go.Proofs.YtakgblgbfbpmoaaDoor
open Go.RowKit

/-- an int64 -/
def I64 (a : Int) : Prop := -9223372036854775808 ≤ a ∧ a ≤ 9223372036854775807

theorem ret_int {k : IntKind} {a b : Int} (h : a = b) : Ending.returned (.int k a) = .returned (.int k b) := by rw [h]
theorem ret_bool {a b : Bool} (h : a = b) : Ending.returned (.bool a) = .returned (.bool b) := by rw [h]
theorem bcell {W w1 : World} (hb : Below W.heap.size W w1) : (∀ b o, b < W.heap.size → w1.cell? ⟨b, o, none⟩ = W.cell? ⟨b, o, none⟩) ∧ (∀ b o, b < W.heap.size → w1.frozen? ⟨b, o, none⟩ = W.frozen? ⟨b, o, none⟩) :=
  ⟨fun b o h => hb.cell (p := ⟨b, o, none⟩) h, fun b o h => hb.frozen (p := ⟨b, o, none⟩) h⟩

theorem add_mk (b off i : Nat) : (⟨b, off, none⟩ : Addr).add i = ⟨b, off + i, none⟩ := by
  unfold Addr.add; split
  · rename_i h; subst h; rfl
  · rfl

/-! ### how the elements of a list lie in cells -/
structure Enc (α : Type) (size : Nat) where
  enc : α → List Value
  len : ∀ x, (enc x).length = size
  one : ∀ x, ∀ u ∈ enc x, u.oneCell' = true
  pos : 0 < size

variable {α : Type} {size : Nat}

def Enc.all (E : Enc α size) (l : List α) : List Value := l.flatMap E.enc
theorem Enc.all_nil (E : Enc α size) : E.all [] = [] := rfl
theorem Enc.all_append (E : Enc α size) (l m : List α) : E.all (l ++ m) = E.all l ++ E.all m := by simp [Enc.all]
theorem Enc.all_one (E : Enc α size) (x : α) : E.all [x] = E.enc x := by simp [Enc.all]
theorem Enc.all_cons (E : Enc α size) (x : α) (l : List α) : E.all (x :: l) = E.enc x ++ E.all l := by simp [Enc.all]
theorem Enc.all_len (E : Enc α size) (l : List α) : (E.all l).length = l.length * size := by
  induction l with
  | nil => simp [Enc.all]
  | cons a l ih => rw [E.all_cons, List.length_append, E.len, ih, List.length_cons, Nat.add_mul, Nat.one_mul, Nat.add_comm]
theorem Enc.all_oneCell (E : Enc α size) (l : List α) : ∀ u ∈ E.all l, u.oneCell' = true := by
  intro u hu
  simp only [Enc.all, List.mem_flatMap] at hu
  obtain ⟨x, _, hx⟩ := hu
  exact E.one x u hx
theorem Enc.all_at (E : Enc α size) : ∀ (l : List α) (i j : Nat) (hi : i < l.length), j < size → (E.all l)[i * size + j]? = (E.enc l[i])[j]? := by
  intro l
  induction l with
  | nil => intro i j hi; simp at hi
  | cons a l ih =>
    intro i j hi hj
    rw [E.all_cons]
    cases i with
    | zero => rw [Nat.zero_mul, Nat.zero_add, List.getElem?_append_left (by rw [E.len]; exact hj)]; rfl
    | succ i =>
      rw [List.getElem?_append_right (by rw [E.len, Nat.add_mul]; omega), E.len]
      rw [show (i + 1) * size + j - size = i * size + j by rw [Nat.add_mul]; omega]
      exact ih i j (by simpa using hi) hj

/-! ### a slice that reads as a list -/
def Rds (w : World) (E : Enc α size) (A : Option Addr) (l : List α) : Prop :=
  l ≠ [] → ∃ b off, A = some ⟨b, off, none⟩ ∧ b < w.heap.size ∧ ∀ j u, (E.all l)[j]? = some u → w.cell? ⟨b, off + j, none⟩ = some u

section
variable {w w' : World} {E : Enc α size} {A : Option Addr} {l : List α}
theorem Rds.nil (w : World) (E : Enc α size) (A : Option Addr) : Rds w E A ([] : List α) := fun h => absurd rfl h
theorem Rds.keep (h : Rds w E A l) (hs : w.heap.size ≤ w'.heap.size) (hk : ∀ b o, b < w.heap.size → w'.cell? ⟨b, o, none⟩ = w.cell? ⟨b, o, none⟩) : Rds w' E A l := fun hn => by
  obtain ⟨b, off, e, hb, hc⟩ := h hn
  exact ⟨b, off, e, by omega, fun j u hu => (hk _ _ hb).trans (hc j u hu)⟩
theorem Rds.below (h : Rds w E A l) (hb : Below w.heap.size w w') : Rds w' E A l := h.keep hb.size (bcell hb).1
theorem Rds.alloc (h : Rds w E A l) (o : Obj) : Rds (w.alloc o) E A l := h.below ((Below.refl _ _).alloc (Nat.le_refl _) o)
theorem Rds.drewN (h : Rds w E A l) (n : Nat) : Rds (w.drewN n) E A l := h
theorem Rds.drew (h : Rds w E A l) : Rds w.drew E A l := h
/-- element i's cells -/
theorem Rds.at_ (h : Rds w E A l) {i : Nat} (hi : i < l.length) : ∃ b off, A = some ⟨b, off, none⟩ ∧ b < w.heap.size ∧ ∀ j u, (E.enc l[i])[j]? = some u → w.cell? ⟨b, off + (i * size + j), none⟩ = some u := by
  obtain ⟨b, off, e, hb, hc⟩ := h (by intro e; subst e; simp at hi)
  refine ⟨b, off, e, hb, fun j u hu => hc _ u ?_⟩
  rw [E.all_at l i j hi (by have := E.len l[i]; have := (List.getElem?_eq_some_iff.1 hu).1; omega)]
  exact hu
/-- a slice cut: from k on -/
theorem Rds.drop (h : Rds w E A l) (k cap : Nat) (hc : l.length ≤ cap) : Rds w E (if cap = k then A else A.map (·.add (k * size))) (l.drop k) := fun hn => by
  have hk : k < l.length := by
    rcases Nat.lt_or_ge k l.length with h | h
    · exact h
    · rw [List.drop_eq_nil_of_le h] at hn; exact absurd rfl hn
  obtain ⟨b, off, rfl, hb, hcell⟩ := h (by intro e; subst e; simp at hk)
  rw [if_neg (by omega)]
  refine ⟨b, off + k * size, by simp [add_mk], hb, fun j u hu => ?_⟩
  rw [Nat.add_assoc]
  refine hcell _ u ?_
  have e : E.all l = E.all (l.take k) ++ E.all (l.drop k) := by rw [← E.all_append, List.take_append_drop]
  have hl : (E.all (l.take k)).length = k * size := by rw [E.all_len, List.length_take, Nat.min_eq_left (by omega)]
  rw [e, List.getElem?_append_right (by rw [hl]; omega), hl, Nat.add_sub_cancel_left]
  exact hu
/-- a slice cut: its first k -/
theorem Rds.take (h : Rds w E A l) (k : Nat) : Rds w E A (l.take k) := fun hn => by
  obtain ⟨b, off, rfl, hb, hcell⟩ := h (by intro e; subst e; simp at hn)
  refine ⟨b, off, rfl, hb, fun j u hu => hcell _ u ?_⟩
  have e : E.all l = E.all (l.take k) ++ E.all (l.drop k) := by rw [← E.all_append, List.take_append_drop]
  rw [e, List.getElem?_append_left (List.getElem?_eq_some_iff.1 hu).1]
  exact hu
/-- a new row -/
theorem Rds.made (w : World) (E : Enc α size) (l : List α) (e : TypeId) (cs : Array Value) (fr : Nat × Nat) (hc : cs.toList = E.all l) : Rds (w.alloc (.cells cs e fr)) E (some ⟨w.heap.size, 0, none⟩) l := fun _ =>
  ⟨w.heap.size, 0, rfl, by simp, fun j u hu => by
    rw [Nat.zero_add]
    have := World.news_of_block (heap_alloc_new w (.cells cs e fr)) j u (by rw [hc]; exact hu)
    rwa [add_mk, Nat.zero_add] at this⟩
end

/-! ### what a value owns -/
def Own (w : World) (base : Nat) (e : TypeId) (E : Enc α size) (v : Value) (l : List α) : Prop := w.ownsRow base e size v l.length (E.all l)

section
variable {w w' : World} {base : Nat} {e : TypeId} {E : Enc α size} {v : Value} {l : List α}
theorem Own.nil_ (w : World) (base : Nat) (e : TypeId) (E : Enc α size) : Own w base e E (.slice none 0 0) ([] : List α) := World.ownsRow_nil _ _ _ _
theorem Own.alloc (h : Own w base e E v l) (o : Obj) : Own (w.alloc o) base e E v l := World.ownsRow.alloc h o
theorem Own.drew (h : Own w base e E v l) : Own w.drew base e E v l := h
theorem Own.drewN (h : Own w base e E v l) (n : Nat) : Own (w.drewN n) base e E v l := h
theorem Own.below {B : Nat} (h : Own w base e E v l) (hb : Below B w w') (hB : w.heap.size ≤ B) : Own w' base e E v l := by
  refine World.ownsRow.kept (row := none) h ⟨hb.os, hb.tape, hb.output, hb.size, fun k hk _ => hb.block k (by omega)⟩ ?_
  cases hv : v.ownBlock <;> simp
theorem Own.mono {base' : Nat} (h : Own w base e E v l) (hb : base' ≤ base) : Own w base' e E v l := by
  refine ⟨h.1, ?_⟩
  rcases h.2 with h2 | ⟨g, cap, cur, hv, hg, r⟩
  · exact .inl h2
  · exact .inr ⟨g, cap, cur, hv, by omega, r⟩
theorem Own.form (h : Own w base e E v l) : ∃ A c, v = .slice A l.length c ∧ l.length ≤ c ∧ c ≤ 9223372036854775807 := by
  rcases h.2 with ⟨rfl, h0⟩ | ⟨g, cap, cur, rfl, _, _, hn, hm, _⟩
  · rw [h0]; exact ⟨none, 0, rfl, Nat.le_refl _, by omega⟩
  · exact ⟨_, cap, rfl, hn, by simpa only [maxLen] using hm⟩
theorem Own.rds (h : Own w base e E v l) : ∃ A c, v = .slice A l.length c ∧ l.length ≤ c ∧ c ≤ 9223372036854775807 ∧ Rds w E A l := by
  rcases h.2 with ⟨rfl, h0⟩ | ⟨g, cap, cur, rfl, hb, hg, hn, hm, hcs, ht⟩
  · have : l = [] := List.eq_nil_of_length_eq_zero h0
    subst this
    exact ⟨none, 0, rfl, Nat.le_refl _, by omega, Rds.nil _ _ _⟩
  · refine ⟨_, cap, rfl, hn, by simpa only [maxLen] using hm, fun _ => ⟨g, 0, rfl, (Array.getElem?_eq_some_iff.1 hg).1, fun j u hu => ?_⟩⟩
    have := World.ownsRow.cells h (g := g) rfl j u hu
    rwa [add_mk] at this
theorem Own.toRds {A : Option Addr} {n c : Nat} (h : Own w base e E (.slice A n c) l) : Rds w E A l := by
  obtain ⟨A', c', hv, _, _, hr⟩ := h.rds
  injection hv with hA
  subst hA
  exact hr
theorem Own.cap {A : Option Addr} {n c : Nat} (h : Own w base e E (.slice A n c) l) : n = l.length ∧ l.length ≤ c ∧ c ≤ 9223372036854775807 := by
  obtain ⟨A', c', hv, h1, h2⟩ := h.form
  injection hv with hA hn hc
  subst hn; subst hc
  exact ⟨rfl, h1, h2⟩
/-- an append onto what is one's own: what lay below is as it was -/
theorem Own.belowGrown {B : Nat} {a : World} (h : Own w base e E v l) (hb : Below B a w) (hg : w.grownBy w' v.ownBlock) (hB : B ≤ base) (hw : B ≤ w.heap.size) : Below B a w' :=
  hb.grown hg hw fun k hk => by have := (World.ownsRow.lt h k hk).1; omega
theorem Own.block_lt (h : Own w base e E v l) : ∀ k, v.ownBlock = some k → base ≤ k ∧ k < w.heap.size := World.ownsRow.lt h
/-- what is owned stays owned where another row grew -/
theorem Own.grown {row : Option Nat} (h : Own w base e E v l) (hg : w.grownBy w' row) (hne : v.ownBlock = none ∨ v.ownBlock ≠ row) : Own w' base e E v l := World.ownsRow.kept h hg hne
/-- a row just made, as a thing of one's own -/
theorem Own.made (w : World) (base : Nat) (e : TypeId) (E : Enc α size) (l : List α) (cs : Array Value) (hc : cs.toList = E.all l) (hb : base ≤ w.heap.size) (hm : l.length ≤ 9223372036854775807) :
    Own (w.alloc (.cells cs e)) base e E (.slice (some ⟨w.heap.size, 0, none⟩) l.length l.length) l := by
  have hcl : cs.size = l.length * size := by rw [← Array.length_toList, hc, E.all_len]
  refine ⟨E.all_len l, .inr ⟨w.heap.size, l.length, cs, rfl, hb, heap_alloc_new w _, Nat.le_refl _, by unfold maxLen; omega, hcl, ?_⟩⟩
  rw [← hcl, ← Array.length_toList, List.take_length, hc]
end

/-! ### a slice that reads as a list, its cells in a block from base on -/
def Rdf (w : World) (base : Nat) (E : Enc α size) (A : Option Addr) (l : List α) : Prop :=
  l ≠ [] → ∃ b off, A = some ⟨b, off, none⟩ ∧ base ≤ b ∧ b < w.heap.size ∧ ∀ j u, (E.all l)[j]? = some u → w.cell? ⟨b, off + j, none⟩ = some u
section
variable {w w' : World} {base : Nat} {E : Enc α size} {A : Option Addr} {l : List α}
theorem Rdf.rds (h : Rdf w base E A l) : Rds w E A l := fun hn => by
  obtain ⟨b, off, e, _, hb, hc⟩ := h hn
  exact ⟨b, off, e, hb, hc⟩
theorem Rdf.keep (h : Rdf w base E A l) (hs : w.heap.size ≤ w'.heap.size) (hk : ∀ b o, base ≤ b → b < w.heap.size → w'.cell? ⟨b, o, none⟩ = w.cell? ⟨b, o, none⟩) : Rdf w' base E A l := fun hn => by
  obtain ⟨b, off, e, h0, hb, hc⟩ := h hn
  exact ⟨b, off, e, h0, by omega, fun j u hu => (hk _ _ h0 hb).trans (hc j u hu)⟩
theorem Rdf.below (h : Rdf w base E A l) (hb : Below w.heap.size w w') : Rdf w' base E A l := h.keep hb.size fun b o _ hlt => (bcell hb).1 b o hlt
theorem Rdf.alloc (h : Rdf w base E A l) (o : Obj) : Rdf (w.alloc o) base E A l := h.below ((Below.refl _ _).alloc (Nat.le_refl _) o)
theorem Rdf.grown {row : Option Nat} (h : Rdf w base E A l) (hg : w.grownBy w' row) (hr : ∀ k, row = some k → k < base) : Rdf w' base E A l :=
  h.keep hg.size fun b o h0 hlt => World.cell?_of_block (hg.block b hlt (by intro e; have := hr b e.symm; omega))
theorem Rdf.made (w : World) (E : Enc α size) (l : List α) (e : TypeId) (cs : Array Value) (fr : Nat × Nat) (hc : cs.toList = E.all l) : Rdf (w.alloc (.cells cs e fr)) w.heap.size E (some ⟨w.heap.size, 0, none⟩) l := fun _ =>
  ⟨w.heap.size, 0, rfl, Nat.le_refl _, by simp, fun j u hu => by
    rw [Nat.zero_add]
    have := World.news_of_block (heap_alloc_new w (.cells cs e fr)) j u (by rw [hc]; exact hu)
    rwa [add_mk, Nat.zero_add] at this⟩
theorem Own.rdf {e : TypeId} {n c : Nat} (h : Own w base e E (.slice A n c) l) : Rdf w base E A l := fun hn => by
  obtain ⟨b, off, rfl, hb, hc⟩ := h.toRds hn
  exact ⟨b, off, rfl, (h.block_lt b rfl).1, hb, hc⟩
end

/-! ### a block that is known whole -/
def Blk (w : World) (g : Nat) (t : TypeId) (cs : Array Value) : Prop := w.heap[g]? = some (.cells cs t (0, 0))
section
variable {w w' : World} {g : Nat} {t : TypeId} {cs : Array Value}
theorem Blk.lt (h : Blk w g t cs) : g < w.heap.size := by
  rcases Nat.lt_or_ge g w.heap.size with hlt | hge
  · exact hlt
  · unfold Blk at h; rw [Array.getElem?_eq_none hge] at h; cases h
theorem Blk.cell (h : Blk w g t cs) (i : Nat) : w.cell? ⟨g, i, none⟩ = cs[i]? := cell_of_row w g i cs t (0, 0) h
theorem Blk.frozen (h : Blk w g t cs) (i : Nat) : w.frozen? ⟨g, i, none⟩ = false := by
  unfold Blk at h
  simp [World.frozen?, h]
theorem Blk.new (w : World) (t : TypeId) (cs : Array Value) : Blk (w.alloc (.cells cs t)) w.heap.size t cs := heap_alloc_new w _
theorem Blk.drew (h : Blk w g t cs) : Blk w.drew g t cs := h
theorem Blk.drewN (h : Blk w g t cs) (n : Nat) : Blk (w.drewN n) g t cs := h
theorem Blk.alloc (h : Blk w g t cs) (o : Obj) : Blk (w.alloc o) g t cs := (Below.heap_alloc w o g h.lt).trans h
theorem Blk.set_ (h : Blk w g t cs) (i : Nat) (u : Value) : Blk (w.setCell ⟨g, i, none⟩ u) g t (cs.setIfInBounds i u) := by
  unfold Blk at h ⊢
  simp [World.setCell, Array.getElem?_modify, h]
theorem Blk.far (h : Blk w g t cs) {p : Addr} (hp : g ≠ p.block) (u : Value) : Blk (w.setCell p u) g t cs := (Below.heap_setCell w p u g hp).trans h
theorem Blk.below {B : Nat} (h : Blk w g t cs) (hb : Below B w w') (hg : g < B) : Blk w' g t cs := (hb.block g hg).trans h
theorem Blk.belowAll (h : Blk w g t cs) (hb : Below w.heap.size w w') : Blk w' g t cs := h.below hb h.lt
theorem Blk.grown {row : Option Nat} (h : Blk w g t cs) (hb : w.grownBy w' row) (hg : some g ≠ row) : Blk w' g t cs := (hb.block g h.lt hg).trans h
theorem Own.ne_blk {base : Nat} {e : TypeId} {E : Enc α size} {v : Value} {l : List α} (h : Own w base e E v l) (hg : Blk w g t cs) (hne : e ≠ t) : some g ≠ v.ownBlock := by
  rcases h.2 with ⟨rfl, _⟩ | ⟨g', cap, cur, rfl, _, hh, _⟩
  · simp [Value.ownBlock]
  · intro he
    have : g = g' := by simpa [Value.ownBlock] using he
    subst this
    unfold Blk at hg
    rw [hg] at hh
    injection hh with hh
    injection hh with _ ht
    exact hne ht.symm
end

theorem grownBy_setCell (w : World) (g i : Nat) (u : Value) : w.grownBy (w.setCell ⟨g, i, none⟩ u) (some g) :=
  ⟨rfl, rfl, rfl, by simp [World.setCell], fun k _ hk => Below.heap_setCell _ _ _ _ (by intro e; exact hk (by rw [e]))⟩
theorem Own.setFar {w : World} {base : Nat} {e : TypeId} {E : Enc α size} {v : Value} {l : List α} {g : Nat} {t : TypeId} {cs : Array Value} (h : Own w base e E v l) (hg : Blk w g t cs) (hne : e ≠ t) (i : Nat) (u : Value) : Own (w.setCell ⟨g, i, none⟩ u) base e E v l :=
  h.grown (grownBy_setCell w g i u) (.inr fun e => (h.ne_blk hg hne) e.symm)

/-! ### a whole struct or array stored into its block, or loaded from it -/
section
variable {P : Program}
theorem setCells_blk (g : Nat) (t : TypeId) : ∀ (vs : List Value) (o : Nat) (w : World) (cur : List Value), o + vs.length ≤ cur.length → Blk w g t cur.toArray →
    Blk (w.setCells g o vs) g t (cur.take o ++ vs ++ cur.drop (o + vs.length)).toArray ∧ w.grownBy (w.setCells g o vs) (some g) ∧ (w.setCells g o vs).heap.size = w.heap.size := by
  intro vs
  induction vs with
  | nil =>
    intro o w cur h hb
    refine ⟨?_, World.grownBy.refl _ _, rfl⟩
    have e : (cur.take o ++ [] ++ cur.drop (o + ([] : List Value).length)).toArray = cur.toArray := by simp
    rw [e]
    exact hb
  | cons v vs ih =>
    intro o w cur h hb
    simp only [List.length_cons] at h
    have hb2 : Blk (w.setCell ⟨g, o, none⟩ v) g t (cur.set o v).toArray := by
      have := hb.set_ o v
      simpa using this
    obtain ⟨h1, h2, h3⟩ := ih (o + 1) (w.setCell ⟨g, o, none⟩ v) (cur.set o v) (by simp; omega) hb2
    refine ⟨?_, ⟨h2.os, h2.tape, h2.output, Nat.le_trans (by simp [World.setCell]) h2.size, fun k hk hne => ?_⟩, by rw [World.setCells]; rw [h3]; simp [World.setCell]⟩
    · rw [World.setCells]
      have e : (cur.set o v).take (o + 1) ++ vs ++ (cur.set o v).drop (o + 1 + vs.length) = cur.take o ++ v :: vs ++ cur.drop (o + (v :: vs).length) := by
        rw [List.take_succ_eq_append_getElem (by simp; omega), List.take_set_of_le (by omega), List.getElem_set_self, List.drop_set_of_lt (by omega), List.length_cons]
        simp [Nat.add_assoc, Nat.add_comm 1]
      rw [← e]
      exact h1
    · rw [World.setCells]
      rw [h2.block k (by simpa [World.setCell] using hk) hne]
      exact Below.heap_setCell _ _ _ _ (by intro e; exact hne (by rw [e]))

theorem wl_store_blk {ops : Array Oper} {rest : List Oper} {op : Oper} {a : Act} {w : World} {Q : Exit → Act → World → Prop} (hgd : op.guard = none) (ty : TypeId) (x y : Operand) (ho : op.op = .store ty x y)
    (g : Nat) (t : TypeId) (cur cells : Array Value) (hx : a.eval x = .pointer (some ⟨g, 0, none⟩)) (hy : a.eval y = .agg cells)
    (hb : Blk w g t cur) (hs : cells.size = cur.size) (hi : (P.info? ty).map (·.size) = some cells.size) (h1 : cells.all (·.oneCell') = true)
    (h : ∀ w', Blk w' g t cells → w.grownBy w' (some g) → w'.heap.size = w.heap.size → wpList P ops Q rest (a.put op.dst undef) w') : wpList P ops Q (op :: rest) a w := by
  have hth : w.there g 0 cells.size := fun j hj => ⟨by rw [Nat.zero_add, hb.cell j, Array.getElem?_eq_getElem (by omega)]; rfl, by rw [Nat.zero_add]; exact hb.frozen j⟩
  obtain ⟨h2, h3, h4⟩ := setCells_blk g t cells.toList 0 w cur.toList (by simp; omega) (by simpa using hb)
  refine wpList_store_mid hgd ty x y ho g 0 cells hx hy hth hi h1 (h _ ?_ h3 h4)
  have e : (cur.toList.take 0 ++ cells.toList ++ cur.toList.drop (0 + cells.toList.length)).toArray = cells := by
    rw [List.drop_of_length_le (by simp; omega)]; simp
  rw [e] at h2
  exact h2
end
theorem Blk.range {w : World} {g : Nat} {t : TypeId} {cs : Array Value} (h : Blk w g t cs) : w.rangeAt g 0 cs.toList := fun j v hv => by
  rw [Nat.zero_add, h.cell j]; simpa using hv

/-! ### append -/
structure Elem (P : Program) (t e : TypeId) (size bytes : Nat) : Prop where
  und : P.underlying t = some (.slice e)
  info : ∃ i z, P.info? e = some i ∧ i.zero = some z ∧ i.size = size ∧ i.bytes = bytes ∧ z.cells.size = size

section
variable {P : Program} {t e : TypeId} {bytes : Nat}
theorem run_app (w : World) (T : Elem P t e size bytes) (ty : TypeId) (E : Enc α size) (base : Nat) (v : Value) (l : List α) (hown : Own w base e E v l)
    (A : Option Addr) (l2 : List α) (c : Nat) (hr : Rds w E A l2) (hb : (l.length + l2.length) * bytes ≤ 140737488355328) (h63 : l.length + l2.length ≤ 9223372036854775807) (hbase : base ≤ w.heap.size) :
    ∃ A' c' w', (Builtin.append_ #[t, t] ty #[v, .slice A l2.length c]).run P w = .ok (.slice A' (l.length + l2.length) c') w' ∧ Own w' base e E (.slice A' (l.length + l2.length) c') (l ++ l2) ∧ w.grownBy w' v.ownBlock ∧
      ((Value.slice A' (l.length + l2.length) c').ownBlock = v.ownBlock ∨ (Value.slice A' (l.length + l2.length) c').ownBlock = some w.heap.size) := by
  obtain ⟨i, z, hi, hz, hsize, hby, hzs⟩ := T.info
  have key : ∀ (ad : Addr), (∀ j u, (E.all l2)[j]? = some u → w.cell? (ad.add j) = some u) → A = some ad → ∃ A' c' w', (Builtin.append_ #[t, t] ty #[v, .slice A l2.length c]).run P w = .ok (.slice A' (l.length + l2.length) c') w' ∧ Own w' base e E (.slice A' (l.length + l2.length) c') (l ++ l2) ∧ w.grownBy w' v.ownBlock ∧
      ((Value.slice A' (l.length + l2.length) c').ownBlock = v.ownBlock ∨ (Value.slice A' (l.length + l2.length) c').ownBlock = some w.heap.size) := by
    rintro ad hcells rfl
    obtain ⟨v', w', hrun, h2, h3, _, h5⟩ := run_append_own_at (P := P) w base t ty e i z size bytes T.und hi hz hsize hby hzs E.pos v l.length (E.all l) hown ad l2.length c (E.all l2) (E.all_len l2) hcells (E.all_oneCell l2) (by unfold maxLen; omega) hb hbase
    have h2' : Own w' base e E v' (l ++ l2) := by unfold Own; rw [List.length_append, E.all_append]; exact h2
    obtain ⟨A', c', rfl, _⟩ := h2'.form
    rw [List.length_append] at h2' h5 hrun
    exact ⟨A', c', w', hrun, h2', h3, h5⟩
  by_cases hl : l2 = []
  · subst hl
    rcases A with _ | ad
    · have hrun : (Builtin.append_ #[t, t] ty #[v, .slice none 0 c]).run P w = .ok v w := by
        rcases hown.2 with ⟨rfl, hl0⟩ | ⟨g, cap, cur, rfl, _, _, hnc, _⟩
        · simp [Builtin.append_, run_underlying T.und, sizeOf, typeInfo, hi, Builtin.lenOf, Builtin.firstCells]
        · simp [Builtin.append_, run_underlying T.und, sizeOf, typeInfo, hi, Builtin.lenOf, Builtin.firstCells, hnc, storeCells]
      obtain ⟨A', c', rfl, _⟩ := hown.form
      exact ⟨A', c', w, hrun, by simpa using hown, World.grownBy.refl w _, .inl rfl⟩
    · exact key ad (by simp [Enc.all]) rfl
  · obtain ⟨b, off, rfl, _, hc⟩ := hr hl
    exact key _ (fun j u hu => by rw [add_mk]; exact hc j u hu) rfl

theorem wp_app (w : World) (T : Elem P t e size bytes) (E : Enc α size) {o : Oper} {a : Act} {K : Act → World → Prop} {Q : Exit → Act → World → Prop} (s x : Operand)
    (ho : o.op = .call { callee := .builtin .append, args := #[s, x], argTypes := #[t, t] })
    (base : Nat) (v : Value) (l : List α) (hs : a.eval s = v) (hown : Own w base e E v l)
    (A : Option Addr) (l2 : List α) (c : Nat) (hx : a.eval x = .slice A l2.length c) (hr : Rds w E A l2) (hb : (l.length + l2.length) * bytes ≤ 140737488355328) (h63 : l.length + l2.length ≤ 9223372036854775807) (hbase : base ≤ w.heap.size)
    (h : ∀ A' c' w', Own w' base e E (.slice A' (l.length + l2.length) c') (l ++ l2) → w.grownBy w' v.ownBlock → ((Value.slice A' (l.length + l2.length) c').ownBlock = v.ownBlock ∨ (Value.slice A' (l.length + l2.length) c').ownBlock = some w.heap.size) →
      K (a.put o.dst (.slice A' (l.length + l2.length) c')) w') : o.wp P a w K Q := by
  obtain ⟨A', c', w', hrun, h2, h3, h4⟩ := run_app w T o.type E base v l hown A l2 c hr hb h63 hbase
  unfold Oper.wp execOp
  simp only [ho, resolve, invoke, builtin, Sem.run_bind, Sem.run_pure, Result.andThen_ok, List.map_toArray, List.map_cons, List.map_nil, hs, hx, hrun]
  exact h A' c' w' h2 h3 h4

/-- for the walk -/
theorem wl_app {w : World} (T : Elem P t e size bytes) (E : Enc α size) {ops : Array Oper} {rest : List Oper} {o : Oper} {a : Act} {Q : Exit → Act → World → Prop} (hgd : o.guard = none) (s x : Operand)
    (ho : o.op = .call { callee := .builtin .append, args := #[s, x], argTypes := #[t, t] })
    (base : Nat) (v : Value) (l : List α) (hs : a.eval s = v) (hown : Own w base e E v l)
    (A : Option Addr) (l2 : List α) (c : Nat) (hx : a.eval x = .slice A l2.length c) (hr : Rds w E A l2) (hb : (l.length + l2.length) * bytes ≤ 140737488355328) (h63 : l.length + l2.length ≤ 9223372036854775807) (hbase : base ≤ w.heap.size)
    (h : ∀ A' c' w', Own w' base e E (.slice A' (l.length + l2.length) c') (l ++ l2) → w.grownBy w' v.ownBlock → ((Value.slice A' (l.length + l2.length) c').ownBlock = v.ownBlock ∨ (Value.slice A' (l.length + l2.length) c').ownBlock = some w.heap.size) →
      wpList P ops Q rest (a.put o.dst (.slice A' (l.length + l2.length) c')) w') : wpList P ops Q (o :: rest) a w :=
  wpList_plain hgd fun _ hK => wp_app w T E s x ho base v l hs hown A l2 c hx hr hb h63 hbase fun A' c' w' h2 h3 h4 => hK _ _ (h A' c' w' h2 h3 h4)

/-- at a step of a region that draws its order -/
theorem step_app {w : World} (T : Elem P t e size bytes) (E : Enc α size) {ops : Array Oper} {o : Oper} {a : Act} {K : Act → World → Prop} {Q : Exit → Act → World → Prop} {X : Prop} (hgd : o.guard = none) (s x : Operand)
    (ho : o.op = .call { callee := .builtin .append, args := #[s, x], argTypes := #[t, t] })
    (base : Nat) (v : Value) (l : List α) (hs : a.eval s = v) (hown : Own w base e E v l)
    (A : Option Addr) (l2 : List α) (c : Nat) (hx : a.eval x = .slice A l2.length c) (hr : Rds w E A l2) (hb : (l.length + l2.length) * bytes ≤ 140737488355328) (h63 : l.length + l2.length ≤ 9223372036854775807) (hbase : base ≤ w.heap.size)
    (h : ∀ A' c' w', Own w' base e E (.slice A' (l.length + l2.length) c') (l ++ l2) → w.grownBy w' v.ownBlock → ((Value.slice A' (l.length + l2.length) c').ownBlock = v.ownBlock ∨ (Value.slice A' (l.length + l2.length) c').ownBlock = some w.heap.size) →
      K (a.put o.dst (.slice A' (l.length + l2.length) c')) w') :
    if Region.wanted o (yielded ops a.tmps) = true then Oper.wp P o a w K Q else X := by
  have hw : Region.wanted o (yielded ops a.tmps) = true := by simp [Region.wanted, hgd]
  rw [if_pos hw]
  exact wp_app w T E s x ho base v l hs hown A l2 c hx hr hb h63 hbase h
end

/-! ### bytes -/
def encB : Enc UInt8 1 := ⟨fun b => [.int .u8 b.toNat], fun _ => rfl, fun _ u hu => by simp at hu; subst hu; rfl, by decide⟩
theorem encB_all (l : List UInt8) : encB.all l = l.map fun b => .int .u8 b.toNat := by
  induction l with
  | nil => rfl
  | cons a l ih => rw [Enc.all_cons, ih]; rfl
theorem encB_str (s : ByteArray) : encB.all s.data.toList = Lib.strCells s := encB_all _

section
variable {P : Program} {t u e : TypeId}
theorem run_app_str (w : World) (T : Elem P t e 1 1) (hz0 : ∀ i, P.info? e = some i → i.zero = some (.int .u8 0)) (hu : P.underlying u = some .string) (ty : TypeId) (base : Nat) (v : Value) (l : List UInt8) (hown : Own w base e encB v l)
    (s : ByteArray) (hb : l.length + s.size ≤ 140737488355328) (hbase : base ≤ w.heap.size) :
    ∃ A' c' w', (Builtin.append_ #[t, u] ty #[v, .string s]).run P w = .ok (.slice A' (l.length + s.size) c') w' ∧ Own w' base e encB (.slice A' (l.length + s.size) c') (l ++ s.data.toList) ∧ w.grownBy w' v.ownBlock := by
  obtain ⟨i, z, hi, _, hsize, hby, _⟩ := T.info
  obtain ⟨v', w', hrun, h2, h3, _⟩ := Lib.run_append_own_string (P := P) w base t u ty e i T.und hu hi (hz0 i hi) hsize hby v l.length (encB.all l) hown s (by unfold maxLen; omega) hb hbase
  have h2' : Own w' base e encB v' (l ++ s.data.toList) := by
    unfold Own; rw [List.length_append, encB.all_append, encB_str]; exact h2
  obtain ⟨A', c', rfl, _⟩ := h2'.form
  rw [List.length_append] at h2' hrun
  exact ⟨A', c', w', hrun, h2', h3⟩
theorem wp_app_str (w : World) (T : Elem P t e 1 1) (hz0 : ∀ i, P.info? e = some i → i.zero = some (.int .u8 0)) (hu : P.underlying u = some .string) {o : Oper} {a : Act} {K : Act → World → Prop} {Q : Exit → Act → World → Prop} (s x : Operand)
    (ho : o.op = .call { callee := .builtin .append, args := #[s, x], argTypes := #[t, u] })
    (base : Nat) (v : Value) (l : List UInt8) (hs : a.eval s = v) (hown : Own w base e encB v l) (y : ByteArray) (hx : a.eval x = .string y) (hb : l.length + y.size ≤ 140737488355328) (hbase : base ≤ w.heap.size)
    (h : ∀ A' c' w', Own w' base e encB (.slice A' (l.length + y.size) c') (l ++ y.data.toList) → w.grownBy w' v.ownBlock → K (a.put o.dst (.slice A' (l.length + y.size) c')) w') : o.wp P a w K Q := by
  obtain ⟨A', c', w', hrun, h2, h3⟩ := run_app_str w T hz0 hu o.type base v l hown y hb hbase
  unfold Oper.wp execOp
  simp only [ho, resolve, invoke, builtin, Sem.run_bind, Sem.run_pure, Result.andThen_ok, List.map_toArray, List.map_cons, List.map_nil, hs, hx, hrun]
  exact h A' c' w' h2 h3
theorem wl_app_str {w : World} (T : Elem P t e 1 1) (hz0 : ∀ i, P.info? e = some i → i.zero = some (.int .u8 0)) (hu : P.underlying u = some .string) {ops : Array Oper} {rest : List Oper} {o : Oper} {a : Act} {Q : Exit → Act → World → Prop} (hgd : o.guard = none) (s x : Operand)
    (ho : o.op = .call { callee := .builtin .append, args := #[s, x], argTypes := #[t, u] })
    (base : Nat) (v : Value) (l : List UInt8) (hs : a.eval s = v) (hown : Own w base e encB v l) (y : ByteArray) (hx : a.eval x = .string y) (hb : l.length + y.size ≤ 140737488355328) (hbase : base ≤ w.heap.size)
    (h : ∀ A' c' w', Own w' base e encB (.slice A' (l.length + y.size) c') (l ++ y.data.toList) → w.grownBy w' v.ownBlock → wpList P ops Q rest (a.put o.dst (.slice A' (l.length + y.size) c')) w') : wpList P ops Q (o :: rest) a w :=
  wpList_plain hgd fun _ hK => wp_app_str w T hz0 hu s x ho base v l hs hown y hx hb hbase fun A' c' w' h2 h3 => hK _ _ (h A' c' w' h2 h3)
end
end Go.Proofs.YtakgblgbfbpmoaaDoor

namespace Go.Proofs.YtakgblgbfbpmoaaDoor
open Go.RowKit

/-- the greatest number -/
def most : Int := 9223372036854775807
/-- a number as the layer 1 reads it -/
def nat0 (a : Int) : Int := if a < 0 then 0 else a
/-- the saturating sum -/
def satAdd (a b : Int) : Int := if nat0 a + nat0 b ≤ most then nat0 a + nat0 b else most
theorem nat0_bd (a : Int) (h : I64 a) : 0 ≤ nat0 a ∧ nat0 a ≤ 9223372036854775807 := by
  unfold I64 at h
  unfold nat0; split <;> omega
theorem satAdd_bd (a b : Int) (ha : I64 a) (hb : I64 b) : 0 ≤ satAdd a b ∧ satAdd a b ≤ 9223372036854775807 := by
  have := nat0_bd a ha; have := nat0_bd b hb; unfold satAdd most; split <;> omega
theorem satAdd_I64 (a b : Int) (ha : I64 a) (hb : I64 b) : I64 (satAdd a b) := by
  have := satAdd_bd a b ha hb; unfold I64; omega

theorem number_any (a : Int) (w : World) (ha : I64 a) :
    Calls Tryd.prog 67 #[.int .i64 a] w fun e w' => e = .returned (.int .i64 (nat0 a)) ∧ w = w' := by
  obtain ⟨h1, h2⟩ := ha
  go_enter Tryd.func67, Tryd.ntmps67
  go_wp2
  all_goals go_ret
  all_goals exact ⟨ret_int (by unfold nat0; split <;> omega), rfl⟩

theorem add_any (a b : Int) (w : World) (ha : I64 a) (hb : I64 b) :
    Calls Tryd.prog 63 #[.int .i64 a, .int .i64 b] w fun e w' => e = .returned (.int .i64 (satAdd a b)) ∧ w = w' := by
  have h1 := nat0_bd a ha
  have h2 := nat0_bd b hb
  obtain ⟨h11, h12⟩ := h1
  obtain ⟨h21, h22⟩ := h2
  go_enter Tryd.func63, Tryd.ntmps63
  go_wp2_with fail
  refine (number_any a _ ha).mono ?_; rintro e w' ⟨rfl, rfl⟩
  go_wp2_with fail
  refine (number_any b _ hb).mono ?_; rintro e w' ⟨rfl, rfl⟩
  go_wp2_with fail
  all_goals go_ret
  all_goals exact ⟨ret_int (by unfold satAdd most; split <;> omega), rfl⟩


/-- what the reference hands back of an unsigned sum -/
def heldOf (n : Int) : Int := if n ≤ most then n else most

end Go.Proofs.YtakgblgbfbpmoaaDoor

namespace Go.Proofs.YtakgblgbfbpmoaaDoor
open Go.RowKit

def encS : Enc ByteArray 1 := ⟨fun s => [.string s], fun _ => rfl, fun _ u hu => by simp at hu; subst hu; rfl, by decide⟩
theorem Rds.str {w : World} {A : Option Addr} {l : List ByteArray} (h : Rds w encS A l) {i : Nat} (hi : i < l.length) : ∃ b off, A = some ⟨b, off, none⟩ ∧ b < w.heap.size ∧ w.cell? ⟨b, off + i, none⟩ = some (.string l[i]) := by
  obtain ⟨b, off, e, hb, hc⟩ := h.at_ hi
  have := hc 0 (.string l[i]) rfl
  exact ⟨b, off, e, hb, by simpa using this⟩

/-- is a text less than another? -/
def blt (a b : ByteArray) : Bool := Op.bytesLess a.toList b.toList

theorem blt_eq (a b : ByteArray) : blt a b = decide (a.data.toList < b.data.toList) := by
  unfold blt; rw [bytesLess_eq, ByteArray.toList_eq, ByteArray.toList_eq]
theorem blt_irrefl (a : ByteArray) : blt a a = false := by rw [blt_eq]; exact decide_eq_false (List.lt_irrefl _)
theorem blt_trans {a b c : ByteArray} (h1 : blt a b = true) (h2 : blt b c = true) : blt a c = true := by
  rw [blt_eq] at *
  exact decide_eq_true (List.lt_trans (of_decide_eq_true h1) (of_decide_eq_true h2))
theorem data_inj {a b : ByteArray} (h : a.data.toList = b.data.toList) : a = b := by
  obtain ⟨⟨x⟩⟩ := a
  obtain ⟨⟨y⟩⟩ := b
  simp only at h
  rw [h]
theorem blt_total {a b : ByteArray} (h1 : blt a b = false) (h2 : blt b a = false) : a = b := by
  rw [blt_eq] at *
  have h1' := of_decide_eq_false h1
  have h2' := of_decide_eq_false h2
  refine data_inj ?_
  exact List.le_antisymm (List.not_lt.1 h2') (List.not_lt.1 h1')

theorem toList_inj {a b : ByteArray} (h : (a.toList == b.toList) = true) : a = b := by
  have h := eq_of_beq h
  rw [ByteArray.toList_eq, ByteArray.toList_eq] at h
  obtain ⟨⟨x⟩⟩ := a
  obtain ⟨⟨y⟩⟩ := b
  simp only at h
  rw [h]
theorem take_eq_next {l m : List ByteArray} {k : Nat} (hk : k < l.length) (hm : k < m.length) (h : l.take k = m.take k) (he : l[k] = m[k]) : l.take (k + 1) = m.take (k + 1) := by
  rw [List.take_succ_eq_append_getElem hk, List.take_succ_eq_append_getElem hm, h, he]
theorem below_ofDrewN {w w' : World} (h : ∃ n, w' = w.drewN n) : Below w.heap.size w w' := by
  obtain ⟨n, rfl⟩ := h
  exact ⟨rfl, rfl, rfl, Nat.le_refl _, fun _ _ => rfl⟩
theorem elemS : Elem Tryd.prog 84 9 1 16 := by
  obtain ⟨i, h1, h2, h3, h4⟩ := info_parts (show (Tryd.prog.info? 9).map (fun i => (i.zero, i.size, i.bytes)) = some (some (.string ⟨#[]⟩), 1, 16) by kernel_rfl)
  exact ⟨Tryd.underlying84, i, _, h1, h2, h3, h4, rfl⟩

end Go.Proofs.YtakgblgbfbpmoaaDoor
