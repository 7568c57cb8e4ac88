/- The plain law of SweepParts: each container is just one of a pod's, lost, dead. -/
import Derived.Test.YtfaklhdafpbkmaaLawSweepDead
import Derived.Test.YtfaklhdafpbkmaaPlaceI
namespace Go.Proofs.Ytfaklhdafpbkmaa
open Go.RowKit

theorem hasB_ids {l : List Cn} (hn : (l.map Cn.id).Nodup) (f : Cn → Bool) {x : Cn} (hx : x ∈ l) : hasB (idsOf f l) x.id = f x := by
  rw [Bool.eq_iff_iff, hasB_mem]
  unfold idsOf
  rw [List.mem_map]
  constructor
  · rintro ⟨y, hy, e⟩
    have hy := List.mem_filter.1 hy
    rw [← id_inj hn hy.1 hx e]; exact hy.2
  · intro h; exact ⟨x, List.mem_filter.2 ⟨hx, h⟩, rfl⟩
theorem hasB_dead {l : List Cn} (hn : (l.map Cn.id).Nodup) (pods : List ByteArray) {x : Cn} (hx : x ∈ l) : hasB (deadOf l pods) x.id = isDead pods x := by
  rw [← hasB_ids hn (isDead pods) hx, Bool.eq_iff_iff, hasB_mem, hasB_mem]
  unfold deadOf idsOf
  rw [List.mem_map, List.mem_map]
  have hp := List.mergeSort_perm (l.filter (isDead pods)) deadLe
  constructor
  · rintro ⟨y, hy, e⟩; exact ⟨y, hp.mem_iff.1 hy, e⟩
  · rintro ⟨y, hy, e⟩; exact ⟨y, hp.mem_iff.2 hy, e⟩
def isPod (pods : List ByteArray) (x : Cn) : Bool := hasB pods x.id
theorem parts3 (pods : List ByteArray) : ∀ l : List Cn, (l.filter (isLost pods)).length + (l.filter (isDead pods)).length + (l.filter (isPod pods)).length = l.length
  | [] => rfl
  | x :: l => by
    have ih := parts3 pods l
    simp only [List.filter_cons, List.length_cons]
    have e1 : isLost pods x = ((x.state == 3) && !hasB pods x.id) := rfl
    have e2 : isDead pods x = (!(x.state == 3) && !hasB pods x.id) := rfl
    have e3 : isPod pods x = hasB pods x.id := rfl
    rw [e1, e2, e3]
    cases hasB pods x.id <;> cases (x.state == 3) <;> simp <;> omega
theorem parts_count (l : List Cn) (pods : List ByteArray) : (idsOf (isLost pods) l).length + (deadOf l pods).length + (l.filter (isPod pods)).length = l.length := by
  unfold deadOf idsOf
  rw [List.length_map, List.length_map, (List.mergeSort_perm _ _).length_eq]
  exact parts3 pods l
theorem lostE_any (l : List Cn) (pods : List ByteArray) (A B : Option Addr) (c d : Nat) (w : World) (hr : Rds w encC A l) (hs : Rds w encS B pods) (hl : l.length ≤ 100000) (hm : pods.length ≤ 9223372036854775807) :
    Calls Try.prog 21 #[.slice A l.length c, .slice B pods.length d] w fun e w' => ∃ (m : List ByteArray) (A' : Option Addr) (c' : Nat), e = .returned (.slice A' m.length c') ∧ Hid (m = idsOf (isLost pods) l) ∧ Own w' w.heap.size 9 encS (.slice A' m.length c') m ∧ Below w.heap.size w w' :=
  (lost_any l pods A B c d w hr hs hl hm).mono fun _ _ ⟨A', c', h1, h2, h3⟩ => ⟨_, A', c', h1, Lib.hid rfl, h2, h3⟩
theorem deadE_any (l : List Cn) (pods : List ByteArray) (A B : Option Addr) (c d : Nat) (w : World) (hr : Rds w encC A l) (hs : Rds w encS B pods) (hl : l.length ≤ 100000) (hm : pods.length ≤ 9223372036854775807) (hn : (l.map Cn.id).Nodup) :
    Calls Try.prog 23 #[.slice A l.length c, .slice B pods.length d] w fun e w' => ∃ (m : List ByteArray) (A' : Option Addr) (c' : Nat), e = .returned (.slice A' m.length c') ∧ Hid (m = deadOf l pods) ∧ Own w' w.heap.size 9 encS (.slice A' m.length c') m ∧ Below w.heap.size w w' :=
  (deadD_any l pods A B c d w hr hs hl hm hn).mono fun _ _ ⟨A', c', h1, h2, h3⟩ => ⟨_, A', c', h1, Lib.hid rfl, h2, h3⟩
end Go.Proofs.Ytfaklhdafpbkmaa
