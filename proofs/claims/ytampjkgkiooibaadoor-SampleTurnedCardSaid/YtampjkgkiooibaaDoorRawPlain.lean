/- What is read of a raw sample: uses in order. No walk. -/
import Derived.Test.YtampjkgkiooibaaDoorRankKey
import Derived.Test.YtampjkgkiooibaaDoorNumPlain
namespace Go.Proofs.YtampjkgkiooibaaDoor
open Go.RowKit

def toUs (g : Ug) : Us := ⟨g.id, readN g.f0, readN g.f1, readN g.f2⟩
def insU : List Us → Us → List Us
  | [], u => [u]
  | x :: l, u => if blt u.id x.id = true then u :: x :: l else x :: insU l u
theorem insU_len (l : List Us) (u : Us) : (insU l u).length = l.length + 1 := by
  induction l with
  | nil => rfl
  | cons x l ih => unfold insU; split <;> simp [ih]
theorem mem_insU {l : List Us} {u x : Us} : x ∈ insU l u ↔ x = u ∨ x ∈ l := by
  induction l with
  | nil => simp [insU]
  | cons y l ih => unfold insU; split <;> simp [ih, or_left_comm]
def sortedP (l : List Us) : Prop := l.Pairwise fun x y => blt x.id y.id = true
theorem sortedP_iff {l : List Us} : sortedP l ↔ SortedU l := by
  unfold sortedP SortedU
  rw [List.pairwise_iff_getElem]
  exact ⟨fun h i j hij hj => h i j (by omega) hj hij, fun h i j hi hj hij => h i j hij hj⟩
theorem insU_sorted {l : List Us} {u : Us} (hs : sortedP l) (hn : ∀ x ∈ l, x.id ≠ u.id) : sortedP (insU l u) := by
  induction l with
  | nil => exact List.pairwise_singleton _ _
  | cons x l ih =>
    obtain ⟨h1, h2⟩ := List.pairwise_cons.1 hs
    unfold insU
    split
    · rename_i hb
      refine List.pairwise_cons.2 ⟨fun y hy => ?_, hs⟩
      rcases List.mem_cons.1 hy with rfl | hy
      · exact hb
      · exact blt_trans hb (h1 y hy)
    · rename_i hb
      refine List.pairwise_cons.2 ⟨fun y hy => ?_, ih h2 fun y hy => hn y (List.mem_cons_of_mem _ hy)⟩
      rcases mem_insU.1 hy with rfl | hy
      · cases hx : blt x.id y.id
        · exact absurd (blt_total hx (by simpa using hb)) (hn x (List.mem_cons_self ..))
        · rfl
      · exact h1 y hy
def readUses (gs : List Ug) : List Us := gs.foldl (fun acc g => insU acc (toUs g)) []
theorem readUses_snoc (gs : List Ug) (k : Nat) (hk : k < gs.length) : readUses (gs.take (k + 1)) = insU (readUses (gs.take k)) (toUs gs[k]) := by
  unfold readUses
  rw [List.take_succ_eq_append_getElem hk, List.foldl_append]; rfl
theorem readUses_mem {gs : List Ug} : ∀ {x : Us}, x ∈ readUses gs ↔ ∃ g ∈ gs, x = toUs g := by
  have h : ∀ (gs : List Ug) (acc : List Us) (x : Us), x ∈ gs.foldl (fun acc g => insU acc (toUs g)) acc ↔ x ∈ acc ∨ ∃ g ∈ gs, x = toUs g := by
    intro gs
    induction gs with
    | nil => intro acc x; simp
    | cons g gs ih =>
      intro acc x
      rw [List.foldl_cons, ih, mem_insU]
      constructor
      · rintro ((rfl | h) | ⟨g', h1, h2⟩)
        · exact .inr ⟨g, by simp, rfl⟩
        · exact .inl h
        · exact .inr ⟨g', by simp [h1], h2⟩
      · rintro (h | ⟨g', h1, h2⟩)
        · exact .inl (.inr h)
        · rcases List.mem_cons.1 h1 with rfl | h1
          · exact .inl (.inl h2)
          · exact .inr ⟨g', h1, h2⟩
  intro x
  unfold readUses
  rw [h]
  simp
theorem readUses_len (gs : List Ug) : (readUses gs).length = gs.length := by
  have h : ∀ (gs : List Ug) (acc : List Us), (gs.foldl (fun acc g => insU acc (toUs g)) acc).length = acc.length + gs.length := by
    intro gs
    induction gs with
    | nil => intro acc; rfl
    | cons g gs ih => intro acc; rw [List.foldl_cons, ih, insU_len, List.length_cons]; omega
  unfold readUses
  rw [h]; simp
def distinctG (gs : List Ug) : Prop := gs.Pairwise fun x y => x.id ≠ y.id
theorem readUses_sorted {gs : List Ug} (hd : distinctG gs) : sortedP (readUses gs) := by
  have h : ∀ (gs : List Ug) (acc : List Us), sortedP acc → distinctG gs → (∀ x ∈ acc, ∀ g ∈ gs, x.id ≠ g.id) → sortedP (gs.foldl (fun acc g => insU acc (toUs g)) acc) := by
    intro gs
    induction gs with
    | nil => intro acc hs _ _; exact hs
    | cons g gs ih =>
      intro acc hs hd hn
      obtain ⟨h1, h2⟩ := List.pairwise_cons.1 hd
      rw [List.foldl_cons]
      refine ih _ (insU_sorted hs fun x hx => hn x hx g (by simp)) h2 fun x hx g' hg' => ?_
      rcases mem_insU.1 hx with rfl | hx
      · exact h1 g' hg'
      · exact hn x hx g' (by simp [hg'])
  exact h gs [] List.Pairwise.nil hd fun x hx => by cases hx
structure Us.Ok (x : Us) : Prop where
  l0 : 0 ≤ x.a0
  l1 : 0 ≤ x.a1
  l2 : 0 ≤ x.a2
  u0 : x.a0 ≤ 9223372036854775807
  u1 : x.a1 ≤ 9223372036854775807
  u2 : x.a2 ≤ 9223372036854775807
theorem toUs_ok (g : Ug) : (toUs g).Ok := ⟨(readN_bd _).1, (readN_bd _).1, (readN_bd _).1, (readN_bd _).2, (readN_bd _).2, (readN_bd _).2⟩
theorem readUses_ok {gs : List Ug} {x : Us} (h : x ∈ readUses gs) : x.Ok := by
  obtain ⟨g, _, rfl⟩ := readUses_mem.1 h
  exact toUs_ok g
theorem usOf_ok {l : List Us} (h : ∀ x ∈ l, x.Ok) (id : ByteArray) : (usOf l id).Ok := by
  unfold usOf
  split
  · split
    · rename_i hx; exact h _ (List.mem_of_getElem? hx)
    · exact ⟨by simp, by simp, by simp, by simp, by simp, by simp⟩
  · exact ⟨by simp, by simp, by simp, by simp, by simp, by simp⟩
/-- in a sorted list the place of a name is its lower bound -/
theorem lowerU_at {l : List Us} (hs : SortedU l) {k : Nat} (hk : k < l.length) : lowerU l l[k].id = k := by
  refine countP_bound _ l k (by omega) (fun t ht h => hs t k h hk) fun t ht h => ?_
  rcases Nat.lt_or_ge k t with h2 | h2
  · cases hb : blt l[t].id l[k].id
    · rfl
    · have := blt_trans (hs k t h2 ht) hb; rw [blt_irrefl] at this; cases this
  · obtain rfl : t = k := by omega
    exact blt_irrefl _
theorem usOf_at {l : List Us} (hs : SortedU l) {k : Nat} (hk : k < l.length) {id : ByteArray} (h : (l[k].id.toList == id.toList) = true) : usOf l id = l[k] := by
  have h2 := toList_inj h
  subst h2
  have e := lowerU_at hs hk
  have hat : isAtU l l[k].id = true := by unfold isAtU; rw [e, List.getElem?_eq_getElem hk]; exact h
  unfold usOf
  rw [if_pos hat, e, List.getElem?_eq_getElem hk]
theorem usOf_none {l : List Us} {id : ByteArray} (h : ∀ x ∈ l, (x.id.toList == id.toList) = false) : usOf l id = ⟨⟨#[]⟩, 0, 0, 0⟩ := by
  have hat : isAtU l id = false := by
    cases hh : isAtU l id
    · rfl
    · obtain ⟨hlt, he⟩ := isAtU_lt hh
      have := h _ (List.getElem_mem hlt)
      rw [he] at this
      simp at this
  unfold usOf
  rw [if_neg (by rw [hat]; simp)]
end Go.Proofs.YtampjkgkiooibaaDoor
