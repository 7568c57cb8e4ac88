/- Who goes, as a relation of the list's contents alone: the same of all lists of the same pods. -/
import Derived.Test.YtlhmhcidknadmaaDoorVSame
namespace Go.Proofs.YtlhmhcidknadmaaDoor
open Go.RowKit

def WhoD (room : S3) (p : Pd) (l : List Pd) (O : List ByteArray) (b : Bool) : Prop :=
  ∃ K : List Pd, K.Perm (askD p l) ∧ (K.Pairwise fun x y => vlt y x = false) ∧ fitsB room (stayD p l) = b ∧ (b = true → O.Perm (chooseD room (stayD p l) K).2 ∧ O.Pairwise fun x y => blt y x = false) ∧ (b = false → O = [])
theorem WhoD.len {room : S3} {p : Pd} {l : List Pd} {O : List ByteArray} {b : Bool} (h : WhoD room p l O b) : O.length ≤ l.length := by
  obtain ⟨K, hk, _, _, h1, h2⟩ := h
  cases b
  · rw [h2 rfl]; simp
  · rw [(h1 rfl).1.length_eq]
    exact Nat.le_trans (chooseD_len _ _ _) (by rw [hk.length_eq]; exact askD_len p l)
theorem WhoD.same {room : S3} {p : Pd} {l m : List Pd} {O O' : List ByteArray} {b b' : Bool} (hi : ∀ x ∈ l, ∀ y ∈ l, x.id = y.id → x = y) (hp : l.Perm m) (h : WhoD room p l O b) (h' : WhoD room p m O' b') : O' = O ∧ b' = b := by
  obtain ⟨K, hk, hs, hf, h1, h2⟩ := h
  obtain ⟨K', hk', hs', hf', h1', h2'⟩ := h'
  have e : b' = b := by rw [← hf, ← hf', fitsB_perm (stayD_perm hp)]
  subst e
  refine ⟨?_, rfl⟩
  cases b'
  · rw [h2 rfl, h2' rfl]
  · exact gone_eq hi hp hk hs hk' hs' (h1 rfl).1 (h1 rfl).2 (h1' rfl).1 (h1' rfl).2
theorem chooseW {room : S3} {p : Pd} {l : List Pd} (A : Option Addr) (c : Nat) (w : World) (hr : Rds w encP A l) (hn : l.length ≤ 50000) (hwf : ∀ x ∈ l, x.Wf) (hp : p.Wf) :
    Calls Tryd.prog 26 #[.agg #[.int .i64 room.a, .int .i64 room.b, .int .i64 room.c], .slice A l.length c, .agg p.cells] w fun e w' => ∃ (O : List ByteArray) (b : Bool) (A : Option Addr) (c : Nat), e = .returned (.tuple #[.slice A O.length c, .bool b]) ∧ WhoD room p l O b ∧ Own w' w.heap.size 9 encS (.slice A O.length c) O ∧ Below w.heap.size w w' := by
  refine (choose_any room p l A c w hr hn hwf hp).mono ?_
  rintro e w' ⟨K, hk, hs, h⟩
  rcases h with ⟨hf, rfl, hb⟩ | ⟨hf, O, A, c, hpo, hos, rfl, ho, hb⟩
  · exact ⟨[], false, none, 0, rfl, ⟨K, hk, hs, hf, fun h => (by cases h), fun _ => rfl⟩, Own.nil_ _ _ _ _, hb⟩
  · exact ⟨O, true, A, c, rfl, ⟨K, hk, hs, hf, fun _ => ⟨hpo, hos⟩, fun h => (by cases h)⟩, ho, hb⟩
/-- asked of the same pods in another order: the same answer -/
theorem chooseW2 {room : S3} {p : Pd} {l m : List Pd} {O : List ByteArray} {b : Bool} (hi : ∀ x ∈ l, ∀ y ∈ l, x.id = y.id → x = y) (hpm : l.Perm m) (h : WhoD room p l O b) (A : Option Addr) (c : Nat) (w : World) (hr : Rds w encP A m) (hn : m.length ≤ 50000) (hwf : ∀ x ∈ m, x.Wf) (hp : p.Wf) :
    Calls Tryd.prog 26 #[.agg #[.int .i64 room.a, .int .i64 room.b, .int .i64 room.c], .slice A m.length c, .agg p.cells] w fun e w' => ∃ (A : Option Addr) (c : Nat), e = .returned (.tuple #[.slice A O.length c, .bool b]) ∧ Own w' w.heap.size 9 encS (.slice A O.length c) O ∧ Below w.heap.size w w' := by
  refine (chooseW A c w hr hn hwf hp).mono ?_
  rintro e w' ⟨O', b', A, c, rfl, hw, ho, hb⟩
  obtain ⟨rfl, rfl⟩ := WhoD.same hi hpm h hw
  exact ⟨A, c, rfl, ho, hb⟩
end Go.Proofs.YtlhmhcidknadmaaDoor
