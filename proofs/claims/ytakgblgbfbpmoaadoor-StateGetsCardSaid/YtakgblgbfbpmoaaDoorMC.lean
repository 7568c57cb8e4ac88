/- Several texts in one: Comparisons: cmp.Compare, cmp.Or, strings.Compare. A row of one's own behind the library's sort. The order in which pods are asked; slices.SortFunc at pods, on a row of one's own. slices.Sort at texts, slices.Clone at pods, on rows of one's own. append of one element built in place. append of one element built in place, and where what is owned lies behind it; two rows of one type that lie apart. victim.apart: those that stay for sure, with the pod; and those that may go, in the order in which they are asked. A region that draws its order, walked by hand: steps with their slot and value written out. Over any program. A region that draws its order, walked by hand: an operation that is the only one to come up, with or without a slot. victim.Choose: who goes. The order in which they are asked is one. bilgeref21.Fit: may a room, a list and a pod be? -/
import Derived.StillTailTactics
import Derived.Lib.Small
import Derived.Sort.Walk0
import Derived.Shelf.SlSortCmp.InsertionK
import Derived.Shelf.SlSortCmp.NoneTotal
import Derived.Shelf.Sort.Plain
import Derived.Shelf.Slices.In.SortNone
import Derived.Shelf.SlicesE.Clone
import Derived.Deep.RegionHeld3
import Derived.Deep.DeepCutAuto
import Derived.Test.YtakgblgbfbpmoaaDoorMA
import Derived.Test.YtakgblgbfbpmoaaDoorShelfC
import Derived.Test.YtakgblgbfbpmoaaDoorShelf
import Derived.Test.YtakgblgbfbpmoaaDoorMB
namespace Go.Proofs.YtakgblgbfbpmoaaDoor
open Go.RowKit
open Go.Lib (compareInt compareBytes)

theorem strcmp_any (a b : ByteArray) (w : World) :
    Calls Tryd.prog 54 #[.string a, .string b] w fun e w' => e = .returned (.int .i64 (compareBytes a.data.toList b.data.toList)) ∧ w' = w := Any.strings_Compare Tryd.lays106 a b w

def encZ : Enc Int 1 := ⟨fun n => [.int .i64 n], fun _ => rfl, fun _ u hu => by simp at hu; subst hu; rfl, by decide⟩
/-- the first that is not nought -/
def orOf : List Int → Int
  | [] => 0
  | x :: l => if x = 0 then orOf l else x
theorem orOf_skip (l : List Int) (k : Nat) (hk : k < l.length) (h : l[k] = 0) : orOf (l.drop k) = orOf (l.drop (k + 1)) := by
  rw [List.drop_eq_getElem_cons hk, orOf, if_pos h]
theorem orOf_take (l : List Int) (k : Nat) (hk : k < l.length) (h : l[k] ≠ 0) : orOf (l.drop k) = l[k] := by
  rw [List.drop_eq_getElem_cons hk, orOf, if_neg h]
theorem cmpB_lt : ∀ x y : List UInt8, (Lib.compareBytes x y < 0 ↔ x < y) ∧ (Lib.compareBytes x y = 0 ↔ x = y) := by
  intro x
  induction x with
  | nil => intro y; cases y <;> simp [Lib.compareBytes]
  | cons a x ih =>
    intro y
    cases y with
    | nil => simp [Lib.compareBytes]
    | cons b y =>
      simp only [Lib.compareBytes, List.cons_lt_cons_iff, List.cons.injEq]
      by_cases h1 : a < b
      · have h2 : a ≠ b := by rintro rfl; exact absurd h1 (UInt8.lt_irrefl _)
        simp [h1, h2]
      · by_cases h2 : b < a
        · have h3 : a ≠ b := by rintro rfl; exact absurd h2 (UInt8.lt_irrefl _)
          simp [h1, h2, h3]
        · have h3 : a = b := UInt8.le_antisymm (UInt8.not_lt.1 h2) (UInt8.not_lt.1 h1)
          subst h3
          simp [h1, ih y]
end Go.Proofs.YtakgblgbfbpmoaaDoor

namespace Go.Proofs.YtakgblgbfbpmoaaDoor
open Go.RowKit

section
variable {α : Type} {size : Nat} {E : Enc α size} {w : World} {base : Nat} {e : TypeId} {v : Value} {l : List α}
theorem own_open (h : Own w base e E v l) (hl : l ≠ []) : ∃ g cap cur, v = .slice (some ⟨g, 0, none⟩) l.length cap ∧ base ≤ g ∧ Blk w g e cur ∧ l.length ≤ cap ∧ cap ≤ maxLen ∧ cur.size = cap * size ∧ cur.toList.take (l.length * size) = E.all l := by
  rcases h.2 with ⟨rfl, h0⟩ | ⟨g, cap, cur, rfl, hb, hg, hn, hm, hcs, ht⟩
  · exact absurd (List.eq_nil_of_length_eq_zero h0) hl
  · exact ⟨g, cap, cur, rfl, hb, hg, hn, hm, hcs, ht⟩
theorem own_shut {g cap : Nat} {cur : Array Value} (hb : base ≤ g) (hg : Blk w g e cur) (hn : l.length ≤ cap) (hm : cap ≤ maxLen) (hcs : cur.size = cap * size) (ht : cur.toList.take (l.length * size) = E.all l) : Own w base e E (.slice (some ⟨g, 0, none⟩) l.length cap) l :=
  ⟨E.all_len l, .inr ⟨g, cap, cur, rfl, hb, hg, hn, hm, hcs, ht⟩⟩
theorem flat_get [Inhabited α] (d : Array α) (t : Nat) (h : t < d.size * size) : (E.all d.toList)[t]? = some (Go.Sort.flatK E.enc size d)[t]! := by
  have hp := E.pos
  have h1 : t / size < d.size := Nat.div_lt_of_lt_mul (by rwa [Nat.mul_comm])
  have h2 : t % size < size := Nat.mod_lt _ hp
  rw [Go.Sort.get_flatK _ _ _ _ h]
  have h3 := E.all_at d.toList (t / size) (t % size) (by simpa using h1) h2
  rw [Nat.div_add_mod'] at h3
  rw [h3, getElem!_pos d _ h1, Array.getElem_toList]
  have h4 : t % size < (E.enc d[t / size]).length := by rw [E.len]; exact h2
  rw [List.getElem?_eq_getElem h4, getElem!_pos (E.enc d[t / size]) (t % size) h4]
theorem holds_of [Inhabited α] {g : Nat} {cur : Array Value} (hg : Blk w g e cur) (ht : cur.toList.take (l.length * size) = E.all l) : Go.Sort.HoldsK E.enc size w g 0 l.toArray := by
  intro j hj
  rw [Go.Sort.size_flatK] at hj
  have hj' : j < l.length * size := by simpa using hj
  refine ⟨?_, hg.frozen _⟩
  rw [Nat.zero_add, hg.cell j]
  have h1 : (cur.toList.take (l.length * size))[j]? = some (Go.Sort.flatK E.enc size l.toArray)[j]! := by rw [ht]; exact flat_get (E := E) l.toArray j hj
  rw [List.getElem?_take_of_lt hj'] at h1
  simpa using h1
theorem sortWorld_own [Inhabited α] {g cap n : Nat} {cur : Array Value} {d : Array α} {os : Array Obj} (hb : base ≤ g) (hg : Blk w g e cur) (hd : d.size = l.length) (hn : l.length ≤ cap) (hm : cap ≤ maxLen) (hcs : cur.size = cap * size) :
    Own (sortWorldK E.enc size w g 0 n d os) base e E (.slice (some ⟨g, 0, none⟩) d.toList.length cap) d.toList ∧ w.grownBy (sortWorldK E.enc size w g 0 n d os) (some g) := by
  have hgl := hg.lt
  have hheap : ∀ k, k < w.heap.size → (sortWorldK E.enc size w g 0 n d os).heap[k]? = (w.heap.modify g (Go.Sort.onCells (Go.Sort.putCells id 0 (Go.Sort.flatK E.enc size d))))[k]? := fun k hk => by
    show ((w.heap.modify g _) ++ os)[k]? = _
    rw [Array.getElem?_append_left (by simpa using hk)]
  refine ⟨own_shut (cur := Go.Sort.putCells id 0 (Go.Sort.flatK E.enc size d) cur) hb ?_ (by simpa [hd] using hn) hm (by unfold Go.Sort.putCells; simpa using hcs) ?_, ⟨rfl, rfl, rfl, ?_, fun k hk hne => ?_⟩⟩
  · unfold Blk
    rw [hheap g hgl, Array.getElem?_modify, if_pos rfl]
    unfold Blk at hg
    rw [hg]; rfl
  · apply List.ext_getElem?
    intro k
    rcases Nat.lt_or_ge k (d.toList.length * size) with hk | hk
    · have hk' : k < d.size * size := by simpa using hk
      have hkc : k < cur.size := by rw [hcs]; exact Nat.lt_of_lt_of_le hk' (Nat.mul_le_mul_right _ (by rw [hd]; exact hn))
      rw [List.getElem?_take_of_lt hk, flat_get d k hk', Array.getElem?_toList]
      unfold Go.Sort.putCells
      rw [Array.getElem?_mapIdx, Array.getElem?_eq_getElem hkc, Option.map_some, if_pos (by rw [Go.Sort.size_flatK]; omega), Nat.sub_zero]
      rfl
    · rw [List.getElem?_eq_none (by rw [List.length_take]; omega), List.getElem?_eq_none (by rw [E.all_len]; exact hk)]
  · show w.heap.size ≤ ((w.heap.modify g _) ++ os).size
    simp
  · rw [hheap k hk, Array.getElem?_modify, if_neg (by intro e; exact hne (by rw [e]))]
end
theorem perm_of {α : Type} [Inhabited α] {l : List α} {d' : Array α} (h : Go.Sort.PermIn 0 l.toArray.size l.toArray d') : d'.size = l.length ∧ d'.toList.Perm l := by
  obtain ⟨h1, _, h3⟩ := h
  have hs : d'.size = l.length := by simpa using h1
  refine ⟨hs, ?_⟩
  have e1 : d'.extract 0 l.toArray.size = d' := by rw [Array.extract_eq_self_of_le]; simp [hs]
  have e2 : l.toArray.extract 0 l.toArray.size = l.toArray := by rw [Array.extract_eq_self_of_le]; simp
  rw [e1, e2] at h3
  exact h3
theorem sorted_of {α : Type} [Inhabited α] {lt : α → α → Bool} {d : Array α} (h : Go.Sort.SortedIn lt 0 d.size d) : d.toList.Pairwise fun x y => lt y x = false := by
  rw [List.pairwise_iff_getElem]
  intro i j hi hj hij
  have hi' : i < d.size := by simpa using hi
  have hj' : j < d.size := by simpa using hj
  have := h i j (Nat.zero_le _) hij hj'
  rw [getElem!_pos d i hi', getElem!_pos d j hj'] at this
  simpa using this
end Go.Proofs.YtakgblgbfbpmoaaDoor

namespace Go.Proofs.YtakgblgbfbpmoaaDoor
open Go.RowKit

/-- is x asked ahead of y? -/
def vlt (x y : Pd) : Bool := if x.prio = y.prio then blt x.id y.id else decide (y.prio < x.prio)
theorem vlt_iff (x y : Pd) : vlt x y = true ↔ y.prio < x.prio ∨ (x.prio = y.prio ∧ blt x.id y.id = true) := by
  unfold vlt
  split
  · rename_i h
    constructor
    · intro h2; exact .inr ⟨h, h2⟩
    · rintro (h2 | ⟨_, h2⟩)
      · omega
      · exact h2
  · rw [decide_eq_true_eq]
    constructor
    · intro h2; exact .inl h2
    · rintro (h2 | ⟨h2, _⟩)
      · exact h2
      · omega
theorem vlt_irrefl (x : Pd) : vlt x x = false := by
  cases h : vlt x x
  · rfl
  · rw [vlt_iff, blt_irrefl] at h
    rcases h with h | ⟨_, h⟩
    · omega
    · cases h
theorem vlt_trans {x y z : Pd} (h1 : vlt x y = true) (h2 : vlt y z = true) : vlt x z = true := by
  rw [vlt_iff] at *
  rcases h1 with h1 | ⟨a1, b1⟩ <;> rcases h2 with h2 | ⟨a2, b2⟩
  · left; omega
  · left; omega
  · left; omega
  · right; exact ⟨by omega, blt_trans b1 b2⟩
theorem vlt_asymm {x y : Pd} (h : vlt x y = true) : vlt y x = false := by
  cases h2 : vlt y x
  · rfl
  · have := vlt_trans h h2; rw [vlt_irrefl] at this; cases this
/-- neither is asked ahead of the other: of one priority and one name -/
theorem vlt_tie {x y : Pd} (h1 : vlt x y = false) (h2 : vlt y x = false) : x.prio = y.prio ∧ x.id = y.id := by
  have a : ¬ (vlt x y = true) := by rw [h1]; simp
  have b : ¬ (vlt y x = true) := by rw [h2]; simp
  rw [vlt_iff] at a b
  have e : x.prio = y.prio := by omega
  refine ⟨e, blt_total ?_ ?_⟩
  · cases h : blt x.id y.id
    · rfl
    · exact absurd (.inr ⟨e, h⟩) a
  · cases h : blt y.id x.id
    · rfl
    · exact absurd (.inr ⟨e.symm, h⟩) b
def cfV (x y : Pd) : Int := orOf [Lib.compareInt y.prio x.prio, Lib.compareBytes x.id.data.toList y.id.data.toList]
theorem cmpI_ltV (a b : Int) : (Lib.compareInt a b < 0 ↔ a < b) ∧ (Lib.compareInt a b = 0 ↔ a = b) := by
  unfold Lib.compareInt
  by_cases h : a < b
  · rw [if_pos h]; omega
  · rw [if_neg h]
    by_cases h2 : b < a
    · rw [if_pos h2]; omega
    · rw [if_neg h2]; omega
theorem cfV_lt (x y : Pd) : ltOf cfV x y = vlt x y := by
  unfold ltOf
  rw [Bool.eq_iff_iff, decide_eq_true_eq, vlt_iff]
  obtain ⟨s1, s2⟩ := cmpB_lt x.id.data.toList y.id.data.toList
  have s3 : blt x.id y.id = true ↔ Lib.compareBytes x.id.data.toList y.id.data.toList < 0 := by rw [blt_eq, decide_eq_true_eq]; exact s1.symm
  rw [s3]
  obtain ⟨a1, a2⟩ := cmpI_ltV y.prio x.prio
  unfold cfV
  clear s1 s2 s3
  generalize Lib.compareBytes x.id.data.toList y.id.data.toList = z at *
  generalize Lib.compareInt y.prio x.prio = r1 at *
  have e : orOf [r1, z] = if r1 = 0 then (if z = 0 then 0 else z) else r1 := rfl
  rw [e]
  by_cases h1 : r1 = 0
  · rw [if_pos h1]
    by_cases h4 : z = 0
    · rw [if_pos h4]; omega
    · rw [if_neg h4]; omega
  · rw [if_neg h1]; omega
theorem swoV : Sort.SWO (ltOf cfV) where
  irrefl x := by rw [cfV_lt]; exact vlt_irrefl x
  trans x y z h1 h2 := by rw [cfV_lt] at *; exact vlt_trans h1 h2
  ntrans x y z h1 h2 := by
    rw [cfV_lt] at *
    cases h : vlt x z
    · rfl
    · exfalso
      rw [vlt_iff] at h
      have a : ¬ (vlt x y = true) := by rw [h1]; simp
      have b : ¬ (vlt y z = true) := by rw [h2]; simp
      rw [vlt_iff] at a b
      rcases h with h | ⟨h, hb⟩
      · omega
      · have e1 : x.prio = y.prio := by omega
        have e2 : y.prio = z.prio := by omega
        cases hxy : blt x.id y.id
        · cases hyx : blt y.id x.id
          · have e := blt_total hxy hyx
            rw [e] at hb
            exact b (.inr ⟨e2, hb⟩)
          · exact b (.inr ⟨e2, blt_trans hyx hb⟩)
        · exact a (.inr ⟨e1, hxy⟩)
instance : Inhabited Pd := ⟨⟨⟨#[]⟩, 0, false, 0, 0, 0, 0, 0, 0, ⟨#[]⟩, 0⟩⟩
def SortsV (l : List Pd) (A : Option Addr) (c : Nat) (base : Nat) (w : World) (e : Ending) (w' : World) : Prop :=
  e = .returned (.tuple #[]) ∧ ∃ l' : List Pd, l'.Perm l ∧ (l'.Pairwise fun x y => vlt y x = false) ∧ Own w' base 44 encP (.slice A l'.length c) l' ∧ w.grownBy w' (Value.slice A l.length c).ownBlock
end Go.Proofs.YtakgblgbfbpmoaaDoor

namespace Go.Proofs.YtakgblgbfbpmoaaDoor
open Go.RowKit

theorem putRow_str (w : World) (g : Nat) (ss : List (List UInt8)) : Go.Sort.putRow encStr w g 0 ss.toArray = Go.Sort.putRowK encS.enc 1 w g 0 (ss.map fun b => (⟨b.toArray⟩ : ByteArray)).toArray := by
  unfold Go.Sort.putRowK Go.Sort.putRow
  congr 1
  funext c
  unfold Go.Sort.putCells
  have hsz : (Go.Sort.flatK encS.enc 1 (ss.map fun b => (⟨b.toArray⟩ : ByteArray)).toArray).size = ss.length := by rw [Go.Sort.size_flatK]; simp
  apply Array.ext
  · simp
  · intro k h1 h2
    simp only [Array.getElem_mapIdx]
    by_cases hk : k < ss.length
    · rw [if_pos (by simp; omega), if_pos (by rw [hsz]; omega)]
      rw [Nat.sub_zero, Go.Sort.get_flatK _ _ _ _ (by simpa using hk)]
      simp only [Nat.div_one, Nat.mod_one]
      rw [getElem!_pos ss.toArray k (by simpa using hk), getElem!_pos (ss.map fun b => (⟨b.toArray⟩ : ByteArray)).toArray k (by simpa using hk)]
      simp [encS]
    · rw [if_neg (by simp; omega), if_neg (by rw [hsz]; omega)]
abbrev leB : List UInt8 → List UInt8 → Bool := fun x y => decide (x ≤ y)
theorem leB_trans (a b c : List UInt8) (h1 : leB a b = true) (h2 : leB b c = true) : leB a c = true := decide_eq_true (List.le_trans (of_decide_eq_true h1) (of_decide_eq_true h2))
theorem leB_total (a b : List UInt8) : (leB a b || leB b a) = true := by
  by_cases h : a ≤ b
  · simp [leB, h]
  · have h2 : b ≤ a := List.not_lt.1 fun h3 => h (List.not_lt.1 fun h4 => absurd (List.lt_trans h3 h4) (List.lt_irrefl _))
    simp [leB, h2]
def toStr (b : List UInt8) : ByteArray := ⟨b.toArray⟩
theorem toStr_data (s : ByteArray) : toStr s.data.toList = s := by unfold toStr; simp
def SortsS (l : List ByteArray) (A : Option Addr) (c : Nat) (base : Nat) (w : World) (e : Ending) (w' : World) : Prop :=
  e = .returned (.tuple #[]) ∧ ∃ l' : List ByteArray, l'.Perm l ∧ (l'.Pairwise fun x y => blt y x = false) ∧ Own w' base 9 encS (.slice A l'.length c) l' ∧ w.grownBy w' (Value.slice A l.length c).ownBlock
/-! ### a copy -/
theorem elemP : Elem Tryd.prog 61 44 11 104 := by
  obtain ⟨i, h1, h2, h3, h4⟩ := info_parts (show (Tryd.prog.info? 44).map (fun i => (i.zero, i.size, i.bytes)) = some (some (.agg #[.string ⟨#[]⟩, .int .i64 0, .bool false, .int .i64 0, .int .i64 0, .int .i64 0, .int .i64 0, .int .i64 0, .int .i64 0, .string ⟨#[]⟩, .int .i64 0]), 11, 104) by kernel_rfl)
  exact ⟨Tryd.underlying61, i, _, h1, h2, h3, h4, rfl⟩
/-- it gives these pods, in memory of its own -/
def GivesP (L : List Pd) (w : World) (e : Ending) (w' : World) : Prop := ∃ A c, e = .returned (.slice A L.length c) ∧ Own w' w.heap.size 44 encP (.slice A L.length c) L ∧ Below w.heap.size w w'
end Go.Proofs.YtakgblgbfbpmoaaDoor

namespace Go.Proofs.YtakgblgbfbpmoaaDoor
open Go.RowKit

theorem own_len1 {α : Type} {size : Nat} {E : Enc α size} {w : World} {base : Nat} {e : TypeId} {A : Option Addr} {l : List α} {u : α} {c : Nat} (h : Own w base e E (.slice A (l.length + 1) c) (l ++ [u])) : Own w base e E (.slice A (l ++ [u]).length c) (l ++ [u]) := by rw [List.length_append]; exact h
/-- append(out, x): the one element built in place -/
theorem wl_push {P : Program} {t e : TypeId} {α : Type} {size bytes : Nat} {w0 W0 : World} (T : Elem P t e size bytes) (E : Enc α size) {ops : Array Oper} {rest : List Oper} {o : Oper} {a : Act} {Q : Exit → Act → World → Prop} (hgd : o.guard = none) (s x : Operand)
    (ho : o.op = .call { callee := .builtin .append, args := #[s, x], argTypes := #[t, t] }) (u : α) (cs : Array Value) (hE : E.enc u = cs.toList)
    (base : Nat) (v : Value) (l : List α) (hs : a.eval s = v) (hown : Own w0 base e E v l) {N : Nat} (hx : a.eval x = .slice (some ⟨N, 0, none⟩) 1 1) (hN : w0.heap.size = N) (hB : Below base W0 w0)
    (hb : (l.length + 1) * bytes ≤ 140737488355328) (h63 : l.length + 1 ≤ 9223372036854775807) (hbw : base ≤ w0.heap.size)
    (h : ∀ A' c' w', Own w' base e E (.slice A' (l.length + 1) c') (l ++ [u]) → Below base W0 w' → (w0.alloc (.cells cs e)).grownBy w' v.ownBlock → wpList P ops Q rest (a.put o.dst (.slice A' (l.length + 1) c')) w') :
    wpList P ops Q (o :: rest) a (w0.alloc (.cells cs e)) := by
  subst hN
  have hr : Rds (w0.alloc (.cells cs e)) E (some ⟨w0.heap.size, 0, none⟩) [u] := Rds.made w0 E [u] e cs (0, 0) (by rw [Enc.all_one]; exact hE.symm)
  have hB2 : Below base W0 (w0.alloc (.cells cs e)) := hB.alloc hbw _
  refine wl_app T E hgd s x ho base v l hs (hown.alloc _) _ [u] 1 hx hr hb h63 (by simp; omega) ?_
  intro A' c' w' h1 h2 _
  exact h A' c' w' h1 ((hown.alloc _).belowGrown hB2 h2 (Nat.le_refl _) (by simp; omega)) h2
end Go.Proofs.YtakgblgbfbpmoaaDoor

namespace Go.Proofs.YtakgblgbfbpmoaaDoor
open Go.RowKit

theorem wl_pushA {P : Program} {t e : TypeId} {α : Type} {size bytes : Nat} {w0 W0 : World} (T : Elem P t e size bytes) (E : Enc α size) {ops : Array Oper} {rest : List Oper} {o : Oper} {a : Act} {Q : Exit → Act → World → Prop} (hgd : o.guard = none) (s x : Operand)
    (ho : o.op = .call { callee := .builtin .append, args := #[s, x], argTypes := #[t, t] }) (u : α) (cs : Array Value) (hE : E.enc u = cs.toList)
    (base : Nat) (v : Value) (l : List α) (hs : a.eval s = v) (hown : Own w0 base e E v l) {N : Nat} (hx : a.eval x = .slice (some ⟨N, 0, none⟩) 1 1) (hN : w0.heap.size = N) (hB : Below base W0 w0)
    (hb : (l.length + 1) * bytes ≤ 140737488355328) (h63 : l.length + 1 ≤ 9223372036854775807) (hbw : base ≤ w0.heap.size)
    (h : ∀ A' c' w', Own w' base e E (.slice A' (l.length + 1) c') (l ++ [u]) → Below base W0 w' → (w0.alloc (.cells cs e)).grownBy w' v.ownBlock → ((Value.slice A' (l.length + 1) c').ownBlock = v.ownBlock ∨ (Value.slice A' (l.length + 1) c').ownBlock = some (w0.heap.size + 1)) → wpList P ops Q rest (a.put o.dst (.slice A' (l.length + 1) c')) w') :
    wpList P ops Q (o :: rest) a (w0.alloc (.cells cs e)) := by
  subst hN
  have hr : Rds (w0.alloc (.cells cs e)) E (some ⟨w0.heap.size, 0, none⟩) [u] := Rds.made w0 E [u] e cs (0, 0) (by rw [Enc.all_one]; exact hE.symm)
  have hB2 : Below base W0 (w0.alloc (.cells cs e)) := hB.alloc hbw _
  have hz : (w0.alloc (.cells cs e)).heap.size = w0.heap.size + 1 := by simp
  refine wl_app T E hgd s x ho base v l hs (hown.alloc _) _ [u] 1 hx hr hb h63 (by simp; omega) ?_
  intro A' c' w' h1 h2 h3
  rw [hz] at h3
  exact h A' c' w' h1 ((hown.alloc _).belowGrown hB2 h2 (Nat.le_refl _) (by simp; omega)) h2 h3
def Apart (v1 v2 : Value) : Prop := ∀ g, v1.ownBlock = some g → v2.ownBlock ≠ some g
theorem Apart.symm {v1 v2 : Value} (h : Apart v1 v2) : Apart v2 v1 := fun g h1 h2 => h g h2 h1
theorem Apart.nilL (v : Value) : Apart (.slice none 0 0) v := fun g h => by simp [Value.ownBlock] at h
theorem Apart.ne {v1 v2 : Value} (h : Apart v1 v2) : v2.ownBlock = none ∨ v2.ownBlock ≠ v1.ownBlock := by
  cases h2 : v2.ownBlock with
  | none => exact .inl rfl
  | some g => exact .inr fun e => h g e.symm h2
theorem Apart.next {v1 v1' v2 : Value} {N : Nat} (h : Apart v1 v2) (h1 : v1'.ownBlock = v1.ownBlock ∨ v1'.ownBlock = some N) (h2 : ∀ g, v2.ownBlock = some g → g < N) : Apart v1' v2 := fun g hg e => by
  rcases h1 with h1 | h1
  · exact h g (by rw [← h1]; exact hg) e
  · rw [h1] at hg
    injection hg with hg
    have := h2 g e
    omega
end Go.Proofs.YtakgblgbfbpmoaaDoor

namespace Go.Proofs.YtakgblgbfbpmoaaDoor
open Go.RowKit

def stayD (p : Pd) (l : List Pd) : List Pd := p :: l.filter fun v => !mayV p v
def askD (p : Pd) (l : List Pd) : List Pd := l.filter (mayV p)
theorem stayD_snoc (p : Pd) (l : List Pd) (v : Pd) : stayD p (l ++ [v]) = stayD p l ++ (if mayV p v then [] else [v]) := by
  unfold stayD
  rw [List.filter_append, List.cons_append]
  congr 2
  cases h : mayV p v <;> simp [h]
theorem askD_snoc (p : Pd) (l : List Pd) (v : Pd) : askD p (l ++ [v]) = askD p l ++ (if mayV p v then [v] else []) := by
  unfold askD
  rw [List.filter_append]
  congr 1
  cases h : mayV p v <;> simp [h]
theorem stayD_len (p : Pd) (l : List Pd) : (stayD p l).length ≤ l.length + 1 := by
  unfold stayD; rw [List.length_cons]; have := List.length_filter_le (fun v => !mayV p v) l; omega
theorem askD_len (p : Pd) (l : List Pd) : (askD p l).length ≤ l.length := List.length_filter_le _ _
theorem Rds.pdAt {w W : World} {b off : Nat} {l : List Pd} (h : Rds w encP (some ⟨b, off, none⟩) l) (hb : Below w.heap.size w W) {i : Nat} {x : Pd} (hx : l[i]? = some x) : W.cell? ⟨b, off + i * 11, none⟩ = some (.string x.id) ∧ W.cell? ⟨b, off + i * 11 + 1, none⟩ = some (.int .i64 x.prio) ∧ W.cell? ⟨b, off + i * 11 + 2, none⟩ = some (.bool x.crit) ∧ W.cell? ⟨b, off + i * 11 + 3, none⟩ = some (.int .i64 x.q0) ∧ W.cell? ⟨b, off + i * 11 + 4, none⟩ = some (.int .i64 x.q1) ∧ W.cell? ⟨b, off + i * 11 + 5, none⟩ = some (.int .i64 x.q2) ∧ W.cell? ⟨b, off + i * 11 + 6, none⟩ = some (.int .i64 x.l0) ∧ W.cell? ⟨b, off + i * 11 + 7, none⟩ = some (.int .i64 x.l1) ∧ W.cell? ⟨b, off + i * 11 + 8, none⟩ = some (.int .i64 x.l2) ∧ W.cell? ⟨b, off + i * 11 + 9, none⟩ = some (.string x.image) ∧ W.cell? ⟨b, off + i * 11 + 10, none⟩ = some (.int .i64 x.size) := by
  obtain ⟨hi, rfl⟩ := List.getElem?_eq_some_iff.1 hx
  obtain ⟨b', off', hA, _, hc⟩ := (h.below hb).at_ hi
  injection hA with hA
  injection hA with h1 h2
  subst h1 h2
  exact ⟨by have := hc 0 (.string l[i].id) rfl; simpa using this, hc 1 (.int .i64 l[i].prio) rfl, hc 2 (.bool l[i].crit) rfl, hc 3 (.int .i64 l[i].q0) rfl, hc 4 (.int .i64 l[i].q1) rfl, hc 5 (.int .i64 l[i].q2) rfl, hc 6 (.int .i64 l[i].l0) rfl, hc 7 (.int .i64 l[i].l1) rfl, hc 8 (.int .i64 l[i].l2) rfl, hc 9 (.string l[i].image) rfl, hc 10 (.int .i64 l[i].size) rfl⟩
theorem Rds.some_ {w : World} {A : Option Addr} {l : List Pd} (h : Rds w encP A l) {i : Nat} (hi : i < l.length) : ∃ b off, A = some ⟨b, off, none⟩ := by
  obtain ⟨b, off, e, _⟩ := h.at_ hi
  exact ⟨b, off, e⟩
/-- it gives these that stay, and these that are asked, each in memory of its own -/
def GivesA (p : Pd) (l : List Pd) (w : World) (e : Ending) (w' : World) : Prop :=
  ∃ (K : List Pd) (A1 A2 : Option Addr) (c1 c2 : Nat), K.Perm (askD p l) ∧ (K.Pairwise fun x y => vlt y x = false) ∧ e = .returned (.tuple #[.slice A1 (stayD p l).length c1, .slice A2 K.length c2]) ∧
    Own w' w.heap.size 44 encP (.slice A1 (stayD p l).length c1) (stayD p l) ∧ Own w' w.heap.size 44 encP (.slice A2 K.length c2) K ∧ Below w.heap.size w w'
end Go.Proofs.YtakgblgbfbpmoaaDoor

namespace Go.Proofs.YtakgblgbfbpmoaaDoor
open Go

section
variable {P : Program} {ops : Array Oper} {Q : Exit → Act → World → Prop} {S : World → Prop} {md : Region.Mode} {fuel : Nat} {listed : Array Bool} {a : Act} {w : World}
/-- an operation that its guard passes over -/
theorem held_skip (i d : Nat) {oi : Oper} (hi : ops[i]? = some oi) (hd : oi.dst = some d) (hs : Region.noSelect ops = true) (hf : Region.free md ops listed i = true) (hr : (Region.ready md ops listed).contains i = true)
    (hQ : ∀ c a w, Q (.panic c) (a.put (some d) undef) w → Q (.panic c) a w) (hw : Region.wanted oi (yielded ops a.tmps) = false) (hS : S w)
    (h : wpAnyH P md ops Q S fuel (listed.setIfInBounds i true) (a.put (some d) undef) w) : wpAnyH P md ops Q S (fuel + 1) listed a w :=
  wpAnyH_take hi hs hf hr (by rw [hd]; exact hQ) (Or.inr ⟨hw, rfl⟩) hS (by rw [hd]; exact h)
/-- one that yields v, whatever the world -/
theorem held_take (i d : Nat) (v : Value) {oi : Oper} (hi : ops[i]? = some oi) (hd : oi.dst = some d) (hs : Region.noSelect ops = true) (hf : Region.free md ops listed i = true) (hr : (Region.ready md ops listed).contains i = true)
    (hQ : ∀ c a w, Q (.panic c) (a.put (some d) v) w → Q (.panic c) a w) (hw : Region.wanted oi (yielded ops a.tmps) = true) (hv : ∀ w, S w → (execOp a.eval oi).run P w = .ok (.value v) w) (hS : S w)
    (h : wpAnyH P md ops Q S fuel (listed.setIfInBounds i true) (a.put (some d) v) w) : wpAnyH P md ops Q S (fuel + 1) listed a w :=
  wpAnyH_take hi hs hf hr (by rw [hd]; exact hQ) (Or.inl ⟨hw, hv⟩) hS (by rw [hd]; exact h)
/-- a call: the only one that may come up -/
theorem held_call (i d : Nat) {oi : Oper} (hi : ops[i]? = some oi) (hd : oi.dst = some d) (hr : Region.ready md ops listed = [i]) (hw : Region.wanted oi (yielded ops a.tmps) = true)
    (h : ∀ K : Act → World → Prop, (∀ v w', S w' → wpAnyH P md ops Q S fuel (listed.setIfInBounds i true) (a.put (some d) v) w' → K (a.put oi.dst v) w') → Oper.wp P oi a w K Q) : wpAnyH P md ops Q S (fuel + 1) listed a w := by
  refine wpAnyH_ready (rs := [i]) hr (by simp) ?_
  refine AllReadyH.cons hi (fun K hK => ?_) AllReadyH.nil
  rw [if_pos hw]
  refine h K fun v w' hS hh => ?_
  rw [hd]
  exact hK.out _ _ hS fun _ => hh
end
end Go.Proofs.YtakgblgbfbpmoaaDoor

namespace Go.Proofs.YtakgblgbfbpmoaaDoor
open Go
section
variable {P : Program} {ops : Array Oper} {Q : Exit → Act → World → Prop} {S : World → Prop} {md : Region.Mode} {fuel : Nat} {listed : Array Bool} {a : Act} {w : World}
theorem held_op (i : Nat) {oi : Oper} (hi : ops[i]? = some oi) (hr : Region.ready md ops listed = [i]) (hw : Region.wanted oi (yielded ops a.tmps) = true)
    (h : ∀ K : Act → World → Prop, (∀ v w', S w' → wpAnyH P md ops Q S fuel (listed.setIfInBounds i true) (a.put oi.dst v) w' → K (a.put oi.dst v) w') → Oper.wp P oi a w K Q) : wpAnyH P md ops Q S (fuel + 1) listed a w := by
  refine wpAnyH_ready (rs := [i]) hr (by simp) ?_
  refine AllReadyH.cons hi (fun K hK => ?_) AllReadyH.nil
  rw [if_pos hw]
  exact h K fun v w' hS hh => hK.out _ _ hS fun _ => hh
theorem held_two (i j : Nat) {oi oj : Oper} (hi : ops[i]? = some oi) (hj : ops[j]? = some oj) (hr : Region.ready md ops listed = [i, j]) (hwi : Region.wanted oi (yielded ops a.tmps) = true) (hwj : Region.wanted oj (yielded ops a.tmps) = true)
    (h1 : ∀ K : Act → World → Prop, (∀ v w', S w' → wpAnyH P md ops Q S fuel (listed.setIfInBounds i true) (a.put oi.dst v) w' → K (a.put oi.dst v) w') → Oper.wp P oi a w K Q)
    (h2 : ∀ K : Act → World → Prop, (∀ v w', S w' → wpAnyH P md ops Q S fuel (listed.setIfInBounds j true) (a.put oj.dst v) w' → K (a.put oj.dst v) w') → Oper.wp P oj a w K Q) : wpAnyH P md ops Q S (fuel + 1) listed a w := by
  refine wpAnyH_ready (rs := [i, j]) hr (by simp) ?_
  refine AllReadyH.cons hi (fun K hK => ?_) (AllReadyH.cons hj (fun K hK => ?_) AllReadyH.nil)
  · rw [if_pos hwi]
    exact h1 K fun v w' hS hh => hK.out _ _ hS fun _ => hh
  · rw [if_pos hwj]
    exact h2 K fun v w' hS hh => hK.out _ _ hS fun _ => hh
end
end Go.Proofs.YtakgblgbfbpmoaaDoor

namespace Go.Proofs.YtakgblgbfbpmoaaDoor
open Go.RowKit

section
variable {P : Program} {ops : Array Oper} {Q : Exit → Act → World → Prop} {S : World → Prop} {md : Region.Mode} {fuel : Nat} {listed : Array Bool} {a : Act} {w : World}
theorem held_twoD (i j di dj : Nat) {oi oj : Oper} (hi : ops[i]? = some oi) (hj : ops[j]? = some oj) (hdi : oi.dst = some di) (hdj : oj.dst = some dj) (hr : Region.ready md ops listed = [i, j]) (hwi : Region.wanted oi (yielded ops a.tmps) = true) (hwj : Region.wanted oj (yielded ops a.tmps) = true)
    (h1 : ∀ K : Act → World → Prop, (∀ v w', S w' → wpAnyH P md ops Q S fuel (listed.setIfInBounds i true) (a.put (some di) v) w' → K (a.put (some di) v) w') → Oper.wp P oi a w K Q)
    (h2 : ∀ K : Act → World → Prop, (∀ v w', S w' → wpAnyH P md ops Q S fuel (listed.setIfInBounds j true) (a.put (some dj) v) w' → K (a.put (some dj) v) w') → Oper.wp P oj a w K Q) : wpAnyH P md ops Q S (fuel + 1) listed a w :=
  held_two i j hi hj hr hwi hwj (by rw [hdi]; exact h1) (by rw [hdj]; exact h2)
end
theorem Blk.pd {W : World} {n : Nat} {x : Pd} (h : Blk W n 44 #[.string x.id, .int .i64 x.prio, .bool x.crit, .int .i64 x.q0, .int .i64 x.q1, .int .i64 x.q2, .int .i64 x.l0, .int .i64 x.l1, .int .i64 x.l2, .string x.image, .int .i64 x.size]) : W.cell? ⟨n, 0, none⟩ = some (.string x.id) ∧ W.cell? ⟨n, 1, none⟩ = some (.int .i64 x.prio) ∧ W.cell? ⟨n, 2, none⟩ = some (.bool x.crit) ∧ W.cell? ⟨n, 3, none⟩ = some (.int .i64 x.q0) ∧ W.cell? ⟨n, 4, none⟩ = some (.int .i64 x.q1) ∧ W.cell? ⟨n, 5, none⟩ = some (.int .i64 x.q2) ∧ W.cell? ⟨n, 6, none⟩ = some (.int .i64 x.l0) ∧ W.cell? ⟨n, 7, none⟩ = some (.int .i64 x.l1) ∧ W.cell? ⟨n, 8, none⟩ = some (.int .i64 x.l2) ∧ W.cell? ⟨n, 9, none⟩ = some (.string x.image) ∧ W.cell? ⟨n, 10, none⟩ = some (.int .i64 x.size) := ⟨h.cell 0, h.cell 1, h.cell 2, h.cell 3, h.cell 4, h.cell 5, h.cell 6, h.cell 7, h.cell 8, h.cell 9, h.cell 10⟩
theorem below_rV {w w0 w' : World} (h0 : Below w.heap.size w w0) (hb : Below w0.heap.size w0 w') : Below w.heap.size w w' := h0.trans (hb.mono h0.size)
theorem own_apartT {w : World} {b1 b2 : Nat} {e1 e2 : TypeId} {α β : Type} {s1 s2 : Nat} {E1 : Enc α s1} {E2 : Enc β s2} {v1 v2 : Value} {l1 : List α} {l2 : List β} (h1 : Own w b1 e1 E1 v1 l1) (h2 : Own w b2 e2 E2 v2 l2) (he : e1 ≠ e2) : v1.ownBlock = none ∨ v1.ownBlock ≠ v2.ownBlock := by
  rcases h1.2 with ⟨rfl, _⟩ | ⟨g, cap, cur, rfl, _, hh, _⟩
  · exact .inl rfl
  · rcases h2.2 with ⟨rfl, _⟩ | ⟨g', cap', cur', rfl, _, hh', _⟩
    · right; simp [Value.ownBlock]
    · right
      intro e
      have e : g = g' := by simpa [Value.ownBlock] using e
      subst e
      rw [hh] at hh'
      injection hh' with hh'
      injection hh' with _ ht
      exact he ht
/-- each that is asked stays, if it fits beside those that stay -/
def chooseD (room : S3) : List Pd → List Pd → List Pd × List ByteArray
  | st, [] => (st, [])
  | st, v :: ks => if fitsB room (st ++ [v]) = true then chooseD room (st ++ [v]) ks else ((chooseD room st ks).1, v.id :: (chooseD room st ks).2)
theorem chooseD_len (room : S3) (st ks : List Pd) : (chooseD room st ks).2.length ≤ ks.length := by
  induction ks generalizing st with
  | nil => simp [chooseD]
  | cons v ks ih =>
    unfold chooseD
    split
    · have := ih (st ++ [v]); simp; omega
    · have := ih st; simp; omega
/-- it answers: these go, in order; or there is no way -/
def GivesC (room : S3) (p : Pd) (l : List Pd) (w : World) (e : Ending) (w' : World) : Prop :=
  ∃ (K : List Pd), K.Perm (askD p l) ∧ (K.Pairwise fun x y => vlt y x = false) ∧
    ((fitsB room (stayD p l) = false ∧ e = .returned (.tuple #[.slice none 0 0, .bool false]) ∧ Below w.heap.size w w') ∨
     (fitsB room (stayD p l) = true ∧ ∃ (O : List ByteArray) (A : Option Addr) (c : Nat), O.Perm (chooseD room (stayD p l) K).2 ∧ (O.Pairwise fun x y => blt y x = false) ∧ e = .returned (.tuple #[.slice A O.length c, .bool true]) ∧ Own w' w.heap.size 9 encS (.slice A O.length c) O ∧ Below w.heap.size w w'))
theorem fitsV {room : S3} {l : List Pd} {v : Bool} (hv : fitsB room l = v) {A : Option Addr} {c : Nat} {w : World} (hr : Rds w encP A l) (hwf : ∀ p ∈ l, p.Wf) (hn : l.length ≤ 200000) :
    Calls Tryd.prog 45 #[.agg #[.int .i64 room.a, .int .i64 room.b, .int .i64 room.c], .slice A l.length c] w fun e w' => e = .returned (.bool v) ∧ Below w.heap.size w w' := by subst hv; exact vfits_any room l A c w hr hwf (by omega)
/-- the boxes of Choose -/
structure CQ (room : S3) (p : Pd) (w W : World) : Prop where
  rm : Blk W w.heap.size 42 #[.int .i64 room.a, .int .i64 room.b, .int .i64 room.c]
  pb : Blk W (w.heap.size + 1) 44 #[.string p.id, .int .i64 p.prio, .bool p.crit, .int .i64 p.q0, .int .i64 p.q1, .int .i64 p.q2, .int .i64 p.l0, .int .i64 p.l1, .int .i64 p.l2, .string p.image, .int .i64 p.size]
  bel : Below w.heap.size w W
theorem CQ.below {room : S3} {p : Pd} {w W W' : World} (h : CQ room p w W) (hb : Below W.heap.size W W') : CQ room p w W' := ⟨h.rm.belowAll hb, h.pb.belowAll hb, h.bel.trans (hb.mono h.bel.size)⟩
theorem CQ.new (room : S3) (p : Pd) (w : World) : CQ room p w ((w.alloc (.cells #[.int .i64 room.a, .int .i64 room.b, .int .i64 room.c] 42)).alloc (.cells #[.string p.id, .int .i64 p.prio, .bool p.crit, .int .i64 p.q0, .int .i64 p.q1, .int .i64 p.q2, .int .i64 p.l0, .int .i64 p.l1, .int .i64 p.l2, .string p.image, .int .i64 p.size] 44)) := by
  have hz : (w.alloc (.cells #[.int .i64 room.a, .int .i64 room.b, .int .i64 room.c] 42)).heap.size = w.heap.size + 1 := by simp
  have hb := Blk.new (w.alloc (.cells #[.int .i64 room.a, .int .i64 room.b, .int .i64 room.c] 42)) 44 #[.string p.id, .int .i64 p.prio, .bool p.crit, .int .i64 p.q0, .int .i64 p.q1, .int .i64 p.q2, .int .i64 p.l0, .int .i64 p.l1, .int .i64 p.l2, .string p.image, .int .i64 p.size]
  rw [hz] at hb
  exact ⟨(Blk.new w 42 #[.int .i64 room.a, .int .i64 room.b, .int .i64 room.c]).alloc _, hb, ((Below.refl _ _).alloc (Nat.le_refl _) _).alloc (by simp) _⟩
end Go.Proofs.YtakgblgbfbpmoaaDoor

namespace Go.Proofs.YtakgblgbfbpmoaaDoor
open Go.RowKit

/-- the order in which they are asked is one, where no two have one Id -/
theorem sortV_eq : ∀ {L1 L2 : List Pd}, L1.Perm L2 → (∀ x ∈ L2, ∀ y ∈ L2, x.id = y.id → x = y) → (L1.Pairwise fun x y => vlt y x = false) → (L2.Pairwise fun x y => vlt y x = false) → L1 = L2
  | [], L2, hp, _, _, _ => by rw [List.nil_perm.1 hp]
  | x :: L1, [], hp, _, _, _ => by simp at hp
  | x :: L1, y :: L2, hp, hi, h1, h2 => by
    have hx : x ∈ y :: L2 := hp.subset (by simp)
    have hy : y ∈ x :: L1 := hp.symm.subset (by simp)
    have e : x = y := by
      rcases List.mem_cons.1 hx with h | h
      · exact h
      · rcases List.mem_cons.1 hy with h' | h'
        · exact h'.symm
        · exact hi x hx y (by simp) (vlt_tie ((List.pairwise_cons.1 h2).1 x h) ((List.pairwise_cons.1 h1).1 y h')).2
    subst e
    rw [sortV_eq ((List.perm_cons x).1 hp) (fun a ha b hb => hi a (List.mem_cons_of_mem _ ha) b (List.mem_cons_of_mem _ hb)) (List.pairwise_cons.1 h1).2 (List.pairwise_cons.1 h2).2]
end Go.Proofs.YtakgblgbfbpmoaaDoor

namespace Go.Proofs.YtakgblgbfbpmoaaDoor
open Go.RowKit

theorem toList_injV {a b : ByteArray} (h : (a.toList == b.toList) = true) : a = b := by
  have h := eq_of_beq h
  rw [ByteArray.toList_eq, ByteArray.toList_eq] at h
  exact ByteArray.ext (Array.toList_inj.1 h)
theorem toList_neV {a b : ByteArray} (h : (a.toList == b.toList) = false) : a ≠ b := fun e => by subst e; simp at h
theorem refSmallV {p : Pd} {v : Bool} (hv : p.small = v) (w : World) :
    Calls Tryd.prog 21 #[.agg p.cells] w fun e w' => e = .returned (.bool v) ∧ Below w.heap.size w w' := by subst hv; exact small_any p w
theorem refRightV {p : Pd} {v : Bool} (hv : p.right = v) (w : World) (hp : p.Wf) :
    Calls Tryd.prog 22 #[.agg p.cells] w fun e w' => e = .returned (.bool v) ∧ Below w.heap.size w w' := by subst hv; exact refRight_any p w hp
structure OkPd (l : List Pd) (p : Pd) (i : Nat) (hi : i < l.length) : Prop where
  s : l[i].small = true
  r : l[i].right = true
  n : l[i].id ≠ p.id
  d : ∀ j (hj : j < i), l[j].id ≠ l[i].id
def OkPdTo (l : List Pd) (p : Pd) (k : Nat) : Prop := ∀ i (hi : i < l.length), i < k → OkPd l p i hi
structure FitV (room : S3) (l : List Pd) (p : Pd) : Prop where
  len : l.length ≤ 64
  a : 0 ≤ room.a
  b : 0 ≤ room.b
  c : 0 ≤ room.c
  s : p.small = true
  r : p.right = true
  ok : OkPdTo l p l.length
theorem OkPdTo.snoc {l : List Pd} {p : Pd} {k : Nat} (hk : k < l.length) (h : OkPdTo l p k) (a : OkPd l p k hk) : OkPdTo l p (k + 1) := fun i hi h2 => by
  rcases Nat.lt_or_ge i k with h3 | h3
  · exact h i hi h3
  · obtain rfl : i = k := by omega
    exact a
theorem FitV.no {room : S3} {l : List Pd} {p : Pd} {v : Bool} (hv : v = true ↔ FitV room l p) (h : ¬ FitV room l p) : v = false := by
  cases v
  · rfl
  · exact absurd (hv.1 rfl) h
def NotInV (l : List Pd) (s : ByteArray) (k : Nat) : Prop := ∀ j (hj : j < l.length), j < k → l[j].id ≠ s
theorem NotInV.snoc {l : List Pd} {s : ByteArray} {k : Nat} (hk : k < l.length) (h : NotInV l s k) (he : (l[k].id.toList == s.toList) = false) : NotInV l s (k + 1) := fun j hj h2 => by
  rcases Nat.lt_or_ge j k with h3 | h3
  · exact h j hj h3
  · obtain rfl : j = k := by omega
    exact toList_neV he
structure FQ (room : S3) (p : Pd) (A : Option Addr) (l : List Pd) (w W : World) : Prop where
  rm : Blk W (w.heap.size) 42 #[.int .i64 room.a, .int .i64 room.b, .int .i64 room.c]
  pb : Blk W (w.heap.size + 1) 44 #[.string p.id, .int .i64 p.prio, .bool p.crit, .int .i64 p.q0, .int .i64 p.q1, .int .i64 p.q2, .int .i64 p.l0, .int .i64 p.l1, .int .i64 p.l2, .string p.image, .int .i64 p.size]
  rd : Rds W encP A l
  bel : Below w.heap.size w W
theorem FQ.below {room : S3} {p : Pd} {A : Option Addr} {l : List Pd} {w W W' : World} (h : FQ room p A l w W) (hb : Below W.heap.size W W') : FQ room p A l w W' := ⟨h.rm.belowAll hb, h.pb.belowAll hb, h.rd.below hb, h.bel.trans (hb.mono h.bel.size)⟩
theorem FQ.alloc {room : S3} {p : Pd} {A : Option Addr} {l : List Pd} {w W : World} (h : FQ room p A l w W) (o : Obj) : FQ room p A l w (W.alloc o) := ⟨h.rm.alloc o, h.pb.alloc o, h.rd.alloc o, h.bel.alloc h.bel.size o⟩
theorem FQ.drew {room : S3} {p : Pd} {A : Option Addr} {l : List Pd} {w W : World} (h : FQ room p A l w W) : FQ room p A l w W.drew := ⟨h.rm.drew, h.pb.drew, h.rd.drew, h.bel.drew⟩
theorem FQ.at_ {room : S3} {p : Pd} {b off : Nat} {l : List Pd} {w W : World} (h : FQ room p (some ⟨b, off, none⟩) l w W) {i : Nat} {x : Pd} (hx : l[i]? = some x) : W.cell? ⟨b, off + i * 11, none⟩ = some (.string x.id) ∧ W.cell? ⟨b, off + i * 11 + 1, none⟩ = some (.int .i64 x.prio) ∧ W.cell? ⟨b, off + i * 11 + 2, none⟩ = some (.bool x.crit) ∧ W.cell? ⟨b, off + i * 11 + 3, none⟩ = some (.int .i64 x.q0) ∧ W.cell? ⟨b, off + i * 11 + 4, none⟩ = some (.int .i64 x.q1) ∧ W.cell? ⟨b, off + i * 11 + 5, none⟩ = some (.int .i64 x.q2) ∧ W.cell? ⟨b, off + i * 11 + 6, none⟩ = some (.int .i64 x.l0) ∧ W.cell? ⟨b, off + i * 11 + 7, none⟩ = some (.int .i64 x.l1) ∧ W.cell? ⟨b, off + i * 11 + 8, none⟩ = some (.int .i64 x.l2) ∧ W.cell? ⟨b, off + i * 11 + 9, none⟩ = some (.string x.image) ∧ W.cell? ⟨b, off + i * 11 + 10, none⟩ = some (.int .i64 x.size) ∧ W.cell? ⟨w.heap.size + 1, 0, none⟩ = some (.string p.id) := by
  obtain ⟨x0, x1, x2, x3, x4, x5, x6, x7, x8, x9, x10⟩ := h.rd.pdAt (Below.refl _ _) hx
  exact ⟨x0, x1, x2, x3, x4, x5, x6, x7, x8, x9, x10, h.pb.cell 0⟩
theorem FQ.new (room : S3) (p : Pd) {A : Option Addr} {l : List Pd} (w : World) (hr : Rds w encP A l) : FQ room p A l w ((w.alloc (.cells #[.int .i64 room.a, .int .i64 room.b, .int .i64 room.c] 42)).alloc (.cells #[.string p.id, .int .i64 p.prio, .bool p.crit, .int .i64 p.q0, .int .i64 p.q1, .int .i64 p.q2, .int .i64 p.l0, .int .i64 p.l1, .int .i64 p.l2, .string p.image, .int .i64 p.size] 44)) := by
  have hq := CQ.new room p w
  exact ⟨hq.rm, hq.pb, hr.below hq.bel, hq.bel⟩
end Go.Proofs.YtakgblgbfbpmoaaDoor
