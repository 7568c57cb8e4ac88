/- What the Victim laws share: boxes under stores, a slice that grows apart; nobody may go. -/
import Derived.Test.YtlhmhcidknadmaaDoorVFit
namespace Go.Proofs.YtlhmhcidknadmaaDoor
open Go.RowKit

theorem Rds.grownN {α : Type} {size : Nat} {E : Enc α size} {w w' : World} {row : Option Nat} {N : Nat} {l : List α} (h : Rds w E (some ⟨N, 0, none⟩) l) (hg : w.grownBy w' row) (hne : some N ≠ row) : Rds w' E (some ⟨N, 0, none⟩) l := fun hn => by
  obtain ⟨b, off, e, hb, hc⟩ := h hn
  injection e with e
  injection e with e1 e2
  subst e1
  subst e2
  exact ⟨N, 0, rfl, Nat.lt_of_lt_of_le hb hg.size, fun j u hu => (World.cell?_of_block (w := w) (hg.block N hb hne)).trans (hc j u hu)⟩
theorem Own.setLow {α : Type} {size : Nat} {E : Enc α size} {w : World} {base : Nat} {e : TypeId} {v : Value} {l : List α} (h : Own w base e E v l) {g : Nat} (hg : g < base) (i : Nat) (u : Value) : Own (w.setCell ⟨g, i, none⟩ u) base e E v l :=
  h.grown (grownBy_setCell w g i u) (.inr fun e => by have := (h.block_lt g e).1; omega)
theorem CQ.alloc {room : S3} {p : Pd} {w W : World} (h : CQ room p w W) (o : Obj) : CQ room p w (W.alloc o) := ⟨h.rm.alloc o, h.pb.alloc o, h.bel.alloc h.bel.size o⟩
theorem CQ.drew {room : S3} {p : Pd} {w W : World} (h : CQ room p w W) : CQ room p w W.drew := ⟨h.rm.drew, h.pb.drew, h.bel.drew⟩
theorem CQ.crit {room : S3} {p : Pd} {w W : World} (h : CQ room p w W) (b : Bool) : CQ room { p with crit := b } w (W.setCell ⟨w.heap.size + 1, 2, none⟩ (.bool b)) :=
  ⟨h.rm.far (by show w.heap.size ≠ w.heap.size + 1; omega) _, h.pb.set_ 2 _, h.bel.setCell (by show w.heap.size ≤ w.heap.size + 1; omega) _⟩
theorem CQ.prio {room : S3} {p : Pd} {w W : World} (h : CQ room p w W) (k : Int) : CQ room { p with prio := k } w (W.setCell ⟨w.heap.size + 1, 1, none⟩ (.int .i64 k)) :=
  ⟨h.rm.far (by show w.heap.size ≠ w.heap.size + 1; omega) _, h.pb.set_ 1 _, h.bel.setCell (by show w.heap.size ≤ w.heap.size + 1; omega) _⟩
theorem CQ.critEx {room : S3} {p : Pd} {w W : World} (h : CQ room p w W) (b : Bool) {base : Nat} {v : Value} {L : List Pd} (ho : Own W base 29 encP v L) (hl : w.heap.size + 1 < base) :
    ∃ v1, W.setCell ⟨w.heap.size + 1, 2, none⟩ (.bool b) = v1 ∧ CQ room { p with crit := b } w v1 ∧ Own v1 base 29 encP v L := ⟨_, rfl, h.crit b, ho.setLow hl 2 _⟩
theorem CQ.prioEx {room : S3} {p : Pd} {w W : World} (h : CQ room p w W) (k : Int) {base : Nat} {v : Value} {L : List Pd} (ho : Own W base 29 encP v L) (hl : w.heap.size + 1 < base) :
    ∃ v1, W.setCell ⟨w.heap.size + 1, 1, none⟩ (.int .i64 k) = v1 ∧ CQ room { p with prio := k } w v1 ∧ Own v1 base 29 encP v L := ⟨_, rfl, h.prio k, ho.setLow hl 1 _⟩
/-- nobody may go for it: nobody goes -/
theorem chooseNone {room : S3} {p : Pd} {l : List Pd} {v : Bool} (hm : ∀ x ∈ l, mayV p x = false) (hv : fitsB room (p :: l) = v) (A : Option Addr) (c : Nat) (w : World) (hr : Rds w encP A l) (hn : l.length ≤ 50000) (hwf : ∀ x ∈ l, x.Wf) (hp : p.Wf) :
    Calls Tryd.prog 26 #[.agg #[.int .i64 room.a, .int .i64 room.b, .int .i64 room.c], .slice A l.length c, .agg p.cells] w fun e w' => ∃ (A : Option Addr) (c : Nat), e = .returned (.tuple #[.slice A 0 c, .bool v]) ∧ Below w.heap.size w w' := by
  have hs : stayD p l = p :: l := by
    unfold stayD
    rw [List.filter_eq_self.2 fun x hx => by rw [hm x hx]; rfl]
  have ha : askD p l = [] := List.filter_eq_nil_iff.2 fun x hx => by rw [hm x hx]; simp
  refine (choose_any room p l A c w hr hn hwf hp).mono ?_
  rintro e w' ⟨K, hk, _, h⟩
  rw [ha, List.perm_nil] at hk
  subst hk
  rw [hs] at h
  rcases h with ⟨hf, rfl, hb⟩ | ⟨hf, O, A, c, hpo, _, rfl, _, hb⟩
  · rw [hf] at hv
    subst hv
    exact ⟨none, 0, rfl, hb⟩
  · rw [hf] at hv
    subst hv
    have hO : O = [] := by simpa [chooseD] using hpo
    subst hO
    exact ⟨A, c, rfl, hb⟩
end Go.Proofs.YtlhmhcidknadmaaDoor
