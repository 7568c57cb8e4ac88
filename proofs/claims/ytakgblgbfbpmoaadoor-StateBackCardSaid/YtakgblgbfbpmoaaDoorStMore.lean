/- A state's bytes: none with more behind, none with fewer. -/
import Derived.Test.YtakgblgbfbpmoaaDoorMT
namespace Go.Proofs.YtakgblgbfbpmoaaDoor
open Go.RowKit

theorem ents_more : ∀ (k : Nat) (m z : List UInt8) (l : List En) (t : List UInt8), entsD k m = some (l, t) → entsD k (m ++ z) = some (l, t ++ z)
  | 0, m, z, l, t, h => by
    simp only [entsD, Option.some.injEq, Prod.mk.injEq] at h
    obtain ⟨rfl, rfl⟩ := h
    rfl
  | k + 1, [], z, l, t, h => by simp [entsD] at h
  | k + 1, x :: m, z, l, t, h => by
    cases hc : cutOf m with
    | none => rw [entsD_bad (.inr ⟨x, m, rfl, hc⟩)] at h; cases h
    | some q =>
      obtain ⟨p, r⟩ := q
      have h1 := entsD_go (k := k) (x := x) (z := ⟨p, (x.toNat : Int)⟩) hc rfl
      have h2 := entsD_go (k := k) (x := x) (z := ⟨p, (x.toNat : Int)⟩) (cut_more z hc) rfl
      rw [h1] at h
      cases he : entsD k r with
      | none => rw [he] at h; cases h
      | some q =>
        obtain ⟨es, r'⟩ := q
        rw [he] at h
        simp only [Option.map_some, Option.some.injEq, Prod.mk.injEq] at h
        obtain ⟨rfl, rfl⟩ := h
        rw [List.cons_append, h2, ents_more k r z es r' he]
        rfl
theorem got_more {L z : List UInt8} {rd rd' : Int} {a b c a' b' c' : Bool} {l l' : List En} (h : GotD L rd a b c l) (h' : GotD (L ++ z) rd' a' b' c' l') : z = [] := by
  have h1 := h.ents
  have h2 := h'.ents
  have h9 : (L ++ z).getD 9 0 = L.getD 9 0 := by
    rw [List.getD_eq_getElem?_getD, List.getD_eq_getElem?_getD, List.getElem?_append_left (by have := h.len; omega)]
  have hd : (L ++ z).drop 10 = L.drop 10 ++ z := List.drop_append_of_le_length h.len
  rw [h9, hd, ents_more _ _ z _ _ h1] at h2
  simp at h2
  exact h2.2
theorem got_fewer {L : List UInt8} {rd : Int} {a b c : Bool} {l : List En} (h : GotD L rd a b c l) (k : Nat) (hk : k < L.length) : ∀ rd a b c l, ¬ GotD (L.take k) rd a b c l := fun rd' a' b' c' l' h' => by
  have h2 : GotD (L.take k ++ L.drop k) rd a b c l := by rw [List.take_append_drop]; exact h
  have := got_more h' h2
  have h3 := congrArg List.length this
  rw [List.length_drop] at h3
  simp at h3
  omega
theorem got_one_more {L : List UInt8} {rd : Int} {a b c : Bool} {l : List En} (h : GotD L rd a b c l) (x : UInt8) : ∀ rd a b c l, ¬ GotD (L ++ [x]) rd a b c l := fun rd' a' b' c' l' h' => by
  have := got_more h h'
  cases this
end Go.Proofs.YtakgblgbfbpmoaaDoor
