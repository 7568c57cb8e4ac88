/- The laws over a table and a raw sample: what Order, First and the reference's answer, by value. -/
import Derived.Test.YtlnpmdchhmbblaaFit20
import Derived.Test.YtlnpmdchhmbblaaRefOrder20
namespace Go.Proofs.Ytlnpmdchhmbblaa
open Go.RowKit

/-- pods of a table that may be -/
def Tb (l : List En) : Prop := ∀ x ∈ l, x.pod.Wf ∧ x.pod.right = true
theorem Tb.of {l : List En} (hf : FitE l) (hw : ∀ x ∈ l, x.pod.Wf ∧ I64 x.phase) : Tb l := fun x hx => by
  obtain ⟨i, hi, rfl⟩ := List.getElem_of_mem hx
  exact ⟨(hw _ hx).1, (hf.ok i hi hi).r⟩
theorem orderT {k : Int} (hk : k = 0 ∨ k = 1 ∨ k = 2) {l : List En} {A : Option Addr} {c : Nat} {s : Sp} {n : Nat} {W : World} {O : List ByteArray} (hO : orderD k l s.uses = O) (h : SB s n W) (hu : UsOk k s.uses) (hr : Rds W encN A l) (hl : l.length ≤ 100000) (hx : Tb l) :
    Calls Try.prog 26 #[.int .i64 k, .slice A l.length c, .agg s.cells] W (GivesT O W) := by
  subst hO
  refine (order_any k hk l A c s W h.rds hu.len hu.s hr hl fun x hh => hu.ex _ (hx x hh).1 (hx x hh).2).mono fun e w' ⟨L, A2, c2, hp, hq, he, ho, hb⟩ => ?_
  have e1 : L = sortKs (keysD k l s.uses) := sortKs_eq hp hq
  subst e1
  exact ⟨A2, c2, he, ho, hb⟩
theorem refOrderT {k : Int} (hk : k = 0 ∨ k = 1 ∨ k = 2) {l : List En} {A : Option Addr} {c : Nat} {s : Sp} {n : Nat} {W : World} {O : List ByteArray} (hO : orderD k l s.uses = O) (h : SB s n W) (hu : UsOk k s.uses) (hr : Rds W encN A l) (hl : l.length ≤ 100000) (hx : Tb l) :
    Calls Try.prog 30 #[.int .i64 k, .slice A l.length c, .agg s.cells] W (GivesT O W) := by
  subst hO
  exact refOrder20_any k hk l A c s W h.rds hu hr hl hx
theorem refFirstT {k : Int} (hk : k = 0 ∨ k = 1 ∨ k = 2) {l : List En} {A : Option Addr} {c : Nat} {s : Sp} {n : Nat} {W : World} (h : SB s n W) (hu : UsOk k s.uses) (hr : Rds W encN A l) (hl : l.length ≤ 100000) (hx : Tb l) :
    Calls Try.prog 28 #[.int .i64 k, .slice A l.length c, .agg s.cells] W (GivesB k l s.uses W) := refFirstV hk h.rds hu hr hl hx
def bestId (l : List En) : Option Nat → ByteArray
  | none => ⟨#[]⟩
  | some j => match l[j]? with | some x => x.pod.id | none => ⟨#[]⟩
theorem bestId_some {l : List En} {j : Nat} (hj : j < l.length) : bestId l (some j) = l[j].pod.id := by simp [bestId, List.getElem?_eq_getElem hj]
def GivesX (k : Int) (l : List En) (us : List Us) (w : World) (e : Ending) (w' : World) : Prop := ∃ b, BestTo k l us l.length b ∧ e = .returned (.tuple #[.string (bestId l b), .bool b.isSome]) ∧ Below w.heap.size w w'
theorem firstT {k : Int} (hk : k = 0 ∨ k = 1 ∨ k = 2) {l : List En} {A : Option Addr} {c : Nat} {s : Sp} {n : Nat} {W : World} (h : SB s n W) (hu : UsOk k s.uses) (hr : Rds W encN A l) (hl : l.length ≤ 100000) (hx : Tb l) :
    Calls Try.prog 27 #[.int .i64 k, .slice A l.length c, .agg s.cells] W (GivesX k l s.uses W) := by
  refine (first_any k hk l A c s W h.rds hu.len hu.s hr hl fun x hh => hu.ex _ (hx x hh).1 (hx x hh).2).mono fun e w' ⟨id, b, hf, he, hb⟩ => ?_
  generalize hks : keysD k l s.uses = ks at hf
  cases hf with
  | none h0 =>
    refine ⟨none, fun i hi _ => ?_, he, hb⟩
    cases hm : mayB l[i]
    · rfl
    · have : keyD k l[i].pod s.uses ∈ keysD k l s.uses := List.mem_map.2 ⟨l[i], List.mem_filter.2 ⟨List.getElem_mem hi, hm⟩, rfl⟩
      rw [hks, h0] at this; cases this
  | some M hM =>
    obtain ⟨hm1, hm2⟩ := hM
    rw [← hks] at hm1 hm2
    obtain ⟨x, hx1, rfl⟩ := List.mem_map.1 hm1
    obtain ⟨hx2, hx3⟩ := List.mem_filter.1 hx1
    obtain ⟨j, hj, rfl⟩ := List.getElem_of_mem hx2
    refine ⟨some j, ⟨hj, hj, hx3, fun i hi _ hmi => ?_⟩, ?_, hb⟩
    · exact hm2 _ (List.mem_map.2 ⟨l[i], List.mem_filter.2 ⟨List.getElem_mem hi, hmi⟩, rfl⟩)
    · rw [he, bestId_some hj]; rfl
theorem best_same {k : Int} {l : List En} {us : List Us} {b b' : Option Nat} (h : BestTo k l us l.length b) (h' : BestTo k l us l.length b') : (b = none ∧ b' = none) ∨ ∃ (j j' : Nat) (hj : j < l.length) (hj' : j' < l.length), b = some j ∧ b' = some j' ∧ l[j].pod.id = l[j'].pod.id := by
  cases b with
  | none =>
    cases b' with
    | none => exact .inl ⟨rfl, rfl⟩
    | some j' =>
      obtain ⟨hj, _, hm, _⟩ := h'
      have := h j' hj hj
      rw [this] at hm; cases hm
  | some j =>
    cases b' with
    | none =>
      obtain ⟨hj, _, hm, _⟩ := h
      have := h' j hj hj
      rw [this] at hm; cases hm
    | some j' =>
      obtain ⟨hj, _, hm, hmin⟩ := h
      obtain ⟨hj', _, hm', hmin'⟩ := h'
      have e := klt_total (hmin j' hj' hj' hm') (hmin' j hj hj hm)
      exact .inr ⟨j, j', hj, hj', rfl, rfl, (congrArg Ky.id e).symm⟩
theorem sameY {l m : List ByteArray} (he : l = m) {A B : Option Addr} {c d : Nat} {w : World} (hr : Rds w encS A l) (hs : Rds w encS B m) (hl : l.length ≤ 100000) :
    Calls Try.prog 29 #[.slice A l.length c, .slice B m.length d] w fun e w' => e = .returned (.bool true) ∧ Below w.heap.size w w' := by
  subst he
  refine (sameTexts_b l l A B c d w hr hs (by omega) (by omega)).mono fun e w' ⟨h1, h2⟩ => ⟨?_, h2⟩
  rw [h1]; simp
theorem fitY_any {l : List En} (hv : FitE l) {A : Option Addr} {c : Nat} {w : World} (hr : Rds w encN A l) (hw : ∀ x ∈ l, x.pod.Wf ∧ I64 x.phase) (hm : l.length ≤ 9223372036854775807) :
    Calls Try.prog 25 #[.slice A l.length c] w fun e w' => e = .returned (.bool true) ∧ Below w.heap.size w w' := fit20V_any ⟨fun _ => hv, fun _ => rfl⟩ A c w hr hw hm
theorem fitN_any {l : List En} (hv : ¬ FitE l) {A : Option Addr} {c : Nat} {w : World} (hr : Rds w encN A l) (hw : ∀ x ∈ l, x.pod.Wf ∧ I64 x.phase) (hm : l.length ≤ 9223372036854775807) :
    Calls Try.prog 25 #[.slice A l.length c] w fun e w' => e = .returned (.bool false) ∧ Below w.heap.size w w' := fit20V_any ⟨fun e => (by cases e), fun e => absurd e hv⟩ A c w hr hw hm
/-- the raw sample's box, the table -/
structure OT (l : List En) (A : Option Addr) (r : Rw) (w W : World) : Prop where
  rw : Blk W (w.heap.size) 44 r.cells
  wf : r.Wf W
  tb : Rds W encN A l
  bel : Below w.heap.size w W
theorem OT.below {l : List En} {A : Option Addr} {r : Rw} {w W W' : World} (h : OT l A r w W) (hb : Below W.heap.size W W') : OT l A r w W' := ⟨h.rw.belowAll hb, h.wf.below hb, h.tb.below hb, h.bel.trans (hb.mono h.bel.size)⟩
theorem OT.alloc {l : List En} {A : Option Addr} {r : Rw} {w W : World} (h : OT l A r w W) (o : Obj) : OT l A r w (W.alloc o) := ⟨h.rw.alloc o, h.wf.below ((Below.refl _ _).alloc (Nat.le_refl _) o), h.tb.alloc o, h.bel.alloc h.bel.size o⟩
theorem OT.drew {l : List En} {A : Option Addr} {r : Rw} {w W : World} (h : OT l A r w W) : OT l A r w W.drew := ⟨h.rw.drew, h.wf.below (Below.refl _ _).drew, h.tb.drew, h.bel.drew⟩
theorem OT.new (l : List En) (A : Option Addr) (r : Rw) (w : World) (h : r.Wf w) (ht : Rds w encN A l) : OT l A r w (w.alloc (.cells r.cells 44)) := by
  have b0 := Blk.new w 44 r.cells
  have bel : Below w.heap.size w (w.alloc (.cells r.cells 44)) := (Below.refl w.heap.size w).alloc (Nat.le_refl _) _
  exact ⟨b0, h.below bel, ht.below bel, bel⟩
end Go.Proofs.Ytlnpmdchhmbblaa
