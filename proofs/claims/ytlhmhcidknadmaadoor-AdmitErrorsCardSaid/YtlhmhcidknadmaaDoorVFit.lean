/- bilgeref21.Fit: may a room, a list and a pod be? -/
import Derived.Test.YtlhmhcidknadmaaDoorVSortEq
namespace Go.Proofs.YtlhmhcidknadmaaDoor
open Go.RowKit

theorem toList_injV {a b : ByteArray} (h : (a.toList == b.toList) = true) : a = b := by
  have h := eq_of_beq h
  rw [ByteArray.toList_eq, ByteArray.toList_eq] at h
  exact ByteArray.ext (Array.toList_inj.1 h)
theorem toList_neV {a b : ByteArray} (h : (a.toList == b.toList) = false) : a ≠ b := fun e => by subst e; simp at h
theorem refSmallV {p : Pd} {v : Bool} (hv : p.small = v) (w : World) :
    Calls Tryd.prog 11 #[.agg p.cells] w fun e w' => e = .returned (.bool v) ∧ Below w.heap.size w w' := by subst hv; exact small_any p w
theorem refRightV {p : Pd} {v : Bool} (hv : p.right = v) (w : World) (hp : p.Wf) :
    Calls Tryd.prog 20 #[.agg p.cells] w fun e w' => e = .returned (.bool v) ∧ Below w.heap.size w w' := by subst hv; exact refRight_any p w hp
structure OkPd (l : List Pd) (p : Pd) (i : Nat) (hi : i < l.length) : Prop where
  s : l[i].small = true
  r : l[i].right = true
  n : l[i].id ≠ p.id
  d : ∀ j (hj : j < i), l[j].id ≠ l[i].id
def OkPdTo (l : List Pd) (p : Pd) (k : Nat) : Prop := ∀ i (hi : i < l.length), i < k → OkPd l p i hi
structure FitV (room : S3) (l : List Pd) (p : Pd) : Prop where
  len : l.length ≤ 64
  a : 0 ≤ room.a
  b : 0 ≤ room.b
  c : 0 ≤ room.c
  s : p.small = true
  r : p.right = true
  ok : OkPdTo l p l.length
theorem OkPdTo.snoc {l : List Pd} {p : Pd} {k : Nat} (hk : k < l.length) (h : OkPdTo l p k) (a : OkPd l p k hk) : OkPdTo l p (k + 1) := fun i hi h2 => by
  rcases Nat.lt_or_ge i k with h3 | h3
  · exact h i hi h3
  · obtain rfl : i = k := by omega
    exact a
theorem FitV.no {room : S3} {l : List Pd} {p : Pd} {v : Bool} (hv : v = true ↔ FitV room l p) (h : ¬ FitV room l p) : v = false := by
  cases v
  · rfl
  · exact absurd (hv.1 rfl) h
def NotInV (l : List Pd) (s : ByteArray) (k : Nat) : Prop := ∀ j (hj : j < l.length), j < k → l[j].id ≠ s
theorem NotInV.snoc {l : List Pd} {s : ByteArray} {k : Nat} (hk : k < l.length) (h : NotInV l s k) (he : (l[k].id.toList == s.toList) = false) : NotInV l s (k + 1) := fun j hj h2 => by
  rcases Nat.lt_or_ge j k with h3 | h3
  · exact h j hj h3
  · obtain rfl : j = k := by omega
    exact toList_neV he
structure FQ (room : S3) (p : Pd) (A : Option Addr) (l : List Pd) (w W : World) : Prop where
  rm : Blk W (w.heap.size) 22 #[.int .i64 room.a, .int .i64 room.b, .int .i64 room.c]
  pb : Blk W (w.heap.size + 1) 29 #[.string p.id, .int .i64 p.prio, .bool p.crit, .int .i64 p.q0, .int .i64 p.q1, .int .i64 p.q2, .int .i64 p.l0, .int .i64 p.l1, .int .i64 p.l2, .string p.image, .int .i64 p.size]
  rd : Rds W encP A l
  bel : Below w.heap.size w W
theorem FQ.below {room : S3} {p : Pd} {A : Option Addr} {l : List Pd} {w W W' : World} (h : FQ room p A l w W) (hb : Below W.heap.size W W') : FQ room p A l w W' := ⟨h.rm.belowAll hb, h.pb.belowAll hb, h.rd.below hb, h.bel.trans (hb.mono h.bel.size)⟩
theorem FQ.alloc {room : S3} {p : Pd} {A : Option Addr} {l : List Pd} {w W : World} (h : FQ room p A l w W) (o : Obj) : FQ room p A l w (W.alloc o) := ⟨h.rm.alloc o, h.pb.alloc o, h.rd.alloc o, h.bel.alloc h.bel.size o⟩
theorem FQ.drew {room : S3} {p : Pd} {A : Option Addr} {l : List Pd} {w W : World} (h : FQ room p A l w W) : FQ room p A l w W.drew := ⟨h.rm.drew, h.pb.drew, h.rd.drew, h.bel.drew⟩
theorem FQ.at_ {room : S3} {p : Pd} {b off : Nat} {l : List Pd} {w W : World} (h : FQ room p (some ⟨b, off, none⟩) l w W) {i : Nat} {x : Pd} (hx : l[i]? = some x) : W.cell? ⟨b, off + i * 11, none⟩ = some (.string x.id) ∧ W.cell? ⟨b, off + i * 11 + 1, none⟩ = some (.int .i64 x.prio) ∧ W.cell? ⟨b, off + i * 11 + 2, none⟩ = some (.bool x.crit) ∧ W.cell? ⟨b, off + i * 11 + 3, none⟩ = some (.int .i64 x.q0) ∧ W.cell? ⟨b, off + i * 11 + 4, none⟩ = some (.int .i64 x.q1) ∧ W.cell? ⟨b, off + i * 11 + 5, none⟩ = some (.int .i64 x.q2) ∧ W.cell? ⟨b, off + i * 11 + 6, none⟩ = some (.int .i64 x.l0) ∧ W.cell? ⟨b, off + i * 11 + 7, none⟩ = some (.int .i64 x.l1) ∧ W.cell? ⟨b, off + i * 11 + 8, none⟩ = some (.int .i64 x.l2) ∧ W.cell? ⟨b, off + i * 11 + 9, none⟩ = some (.string x.image) ∧ W.cell? ⟨b, off + i * 11 + 10, none⟩ = some (.int .i64 x.size) ∧ W.cell? ⟨w.heap.size + 1, 0, none⟩ = some (.string p.id) := by
  obtain ⟨x0, x1, x2, x3, x4, x5, x6, x7, x8, x9, x10⟩ := h.rd.pdAt (Below.refl _ _) hx
  exact ⟨x0, x1, x2, x3, x4, x5, x6, x7, x8, x9, x10, h.pb.cell 0⟩
theorem FQ.new (room : S3) (p : Pd) {A : Option Addr} {l : List Pd} (w : World) (hr : Rds w encP A l) : FQ room p A l w ((w.alloc (.cells #[.int .i64 room.a, .int .i64 room.b, .int .i64 room.c] 22)).alloc (.cells #[.string p.id, .int .i64 p.prio, .bool p.crit, .int .i64 p.q0, .int .i64 p.q1, .int .i64 p.q2, .int .i64 p.l0, .int .i64 p.l1, .int .i64 p.l2, .string p.image, .int .i64 p.size] 29)) := by
  have hq := CQ.new room p w
  exact ⟨hq.rm, hq.pb, hr.below hq.bel, hq.bel⟩
end Go.Proofs.YtlhmhcidknadmaaDoor
