/- Who goes doesn't hang on the order of the list. -/
import Derived.Test.YtlhmhcidknadmaaDoorVPlain
import Derived.Test.YtlhmhcidknadmaaDoorVFit
namespace Go.Proofs.YtlhmhcidknadmaaDoor
open Go.RowKit

theorem sortT_eq : ∀ {L1 L2 : List ByteArray}, L1.Perm L2 → (L1.Pairwise fun x y => blt y x = false) → (L2.Pairwise fun x y => blt y x = false) → L1 = L2
  | [], L2, hp, _, _ => by rw [List.nil_perm.1 hp]
  | x :: L1, [], hp, _, _ => by simp at hp
  | x :: L1, y :: L2, hp, h1, h2 => by
    have hx : x ∈ y :: L2 := hp.subset (by simp)
    have hy : y ∈ x :: L1 := hp.symm.subset (by simp)
    have e : x = y := by
      rcases List.mem_cons.1 hx with h | h
      · exact h
      · rcases List.mem_cons.1 hy with h' | h'
        · exact h'.symm
        · exact blt_total ((List.pairwise_cons.1 h2).1 x h) ((List.pairwise_cons.1 h1).1 y h')
    subst e
    rw [sortT_eq ((List.perm_cons x).1 hp) (List.pairwise_cons.1 h1).2 (List.pairwise_cons.1 h2).2]
theorem FitV.inj {room : S3} {l : List Pd} {p : Pd} (h : FitV room l p) : ∀ x ∈ l, ∀ y ∈ l, x.id = y.id → x = y := fun x hx y hy e => by
  obtain ⟨i, hi, rfl⟩ := List.getElem_of_mem hx
  obtain ⟨j, hj, rfl⟩ := List.getElem_of_mem hy
  rcases Nat.lt_trichotomy i j with h1 | h1 | h1
  · exact absurd e ((h.ok j hj hj).d i h1)
  · subst h1; rfl
  · exact absurd e.symm ((h.ok i hi hi).d j h1)
theorem stayD_perm {p : Pd} {l m : List Pd} (h : l.Perm m) : (stayD p l).Perm (stayD p m) := (h.filter _).cons p
theorem askD_perm {p : Pd} {l m : List Pd} (h : l.Perm m) : (askD p l).Perm (askD p m) := h.filter _
/-- what is asked of one list is asked of the other alike -/
theorem asked_eq {p : Pd} {l m K K' : List Pd} (hi : ∀ x ∈ l, ∀ y ∈ l, x.id = y.id → x = y) (h : l.Perm m) (hk : K.Perm (askD p l)) (hs : K.Pairwise fun x y => vlt y x = false) (hk' : K'.Perm (askD p m)) (hs' : K'.Pairwise fun x y => vlt y x = false) : K' = K :=
  sortV_eq (hk'.trans ((askD_perm h).symm.trans hk.symm)) (fun x hx y hy => hi x (List.mem_filter.1 (hk.subset hx)).1 y (List.mem_filter.1 (hk.subset hy)).1) hs' hs
theorem gone_eq {room : S3} {p : Pd} {l m K K' : List Pd} {O O' : List ByteArray} (hi : ∀ x ∈ l, ∀ y ∈ l, x.id = y.id → x = y) (h : l.Perm m) (hk : K.Perm (askD p l)) (hs : K.Pairwise fun x y => vlt y x = false) (hk' : K'.Perm (askD p m)) (hs' : K'.Pairwise fun x y => vlt y x = false)
    (ho : O.Perm (chooseD room (stayD p l) K).2) (hos : O.Pairwise fun x y => blt y x = false) (ho' : O'.Perm (chooseD room (stayD p m) K').2) (hos' : O'.Pairwise fun x y => blt y x = false) : O' = O := by
  obtain rfl := asked_eq hi h hk hs hk' hs'
  rw [← chooseD_perm (stayD_perm h)] at ho'
  exact sortT_eq (ho'.trans ho.symm) hos' hos
end Go.Proofs.YtlhmhcidknadmaaDoor
