/- bilgelaw20.awake: the document's own example comes true. -/
import Derived.Test.YtlnpmdchhmbblaaRankFirst
namespace Go.Proofs.Ytlnpmdchhmbblaa
open Go.RowKit

/-- the order in which keys stand is one -/
theorem sortK_eq : ∀ {L1 L2 : List Ky}, L1.Perm L2 → (L1.Pairwise fun x y => klt y x = false) → (L2.Pairwise fun x y => klt y x = false) → L1 = L2
  | [], L2, hp, _, _ => by rw [List.nil_perm.1 hp]
  | x :: L1, [], hp, _, _ => by simp at hp
  | x :: L1, y :: L2, hp, h1, h2 => by
    have hx : x ∈ y :: L2 := hp.subset (by simp)
    have hy : y ∈ x :: L1 := hp.symm.subset (by simp)
    have e : x = y := by
      rcases List.mem_cons.1 hx with h | h
      · exact h
      · rcases List.mem_cons.1 hy with h' | h'
        · exact h'.symm
        · exact klt_total ((List.pairwise_cons.1 h2).1 x h |> fun q => q) ((List.pairwise_cons.1 h1).1 y h') |> fun q => q
    subst e
    rw [sortK_eq ((List.perm_cons x).1 hp) (List.pairwise_cons.1 h1).2 (List.pairwise_cons.1 h2).2]
theorem firstOf_eq {ks : List Ky} {M : Ky} (hm : IsMin ks M) {s : ByteArray} {b : Bool} (h : FirstOf ks s b) : s = M.id ∧ b = true := by
  cases h with
  | none e => subst e; simp [IsMin] at hm
  | some M2 h2 => exact ⟨by rw [klt_total (hm.2 M2 h2.1) (h2.2 M hm.1)], rfl⟩
theorem firstOf_nil {s : ByteArray} {b : Bool} (h : FirstOf [] s b) : s = ⟨#[]⟩ ∧ b = false := by
  cases h with
  | none e => exact ⟨rfl, rfl⟩
  | some M2 h2 => exact absurd h2.1 (by simp)
section
variable {k : Int} {l : List En} {A : Option Addr} {c : Nat} {s : Sp} {ks : List Ky}
theorem firstV_any (hk : k = 0 ∨ k = 1 ∨ k = 2) {M : Ky} (hks : keysD k l s.uses = ks) (hm : IsMin ks M) (w : World) (hr : Rds w encU s.A s.uses) (hl : s.uses.length ≤ 100000) (hs : SortedU s.uses) (hrn : Rds w encN A l) (hln : l.length ≤ 100000) (hx : ∀ x ∈ l, ExOk k x.pod s.uses) :
    Calls Try.prog 27 #[.int .i64 k, .slice A l.length c, .agg s.cells] w fun e w' => e = .returned (.tuple #[.string M.id, .bool true]) ∧ Below w.heap.size w w' :=
  (first_any k hk l A c s w hr hl hs hrn hln hx).mono fun e w' ⟨i, b, hf, he, hb⟩ => by
    rw [hks] at hf
    obtain ⟨rfl, rfl⟩ := firstOf_eq hm hf
    exact ⟨he, hb⟩
theorem firstNil_any (hk : k = 0 ∨ k = 1 ∨ k = 2) (w : World) (hr : Rds w encU s.A s.uses) (hl : s.uses.length ≤ 100000) (hs : SortedU s.uses) :
    Calls Try.prog 27 #[.int .i64 k, .slice none 0 0, .agg s.cells] w fun e w' => e = .returned (.tuple #[.string ⟨#[]⟩, .bool false]) ∧ Below w.heap.size w w' :=
  (first_any k hk [] none 0 s w hr hl hs (Rds.nil w encN none) (by simp) (by simp)).mono fun e w' ⟨i, b, hf, he, hb⟩ => by
    obtain ⟨rfl, rfl⟩ := firstOf_nil hf
    exact ⟨he, hb⟩
theorem orderV_any (hk : k = 0 ∨ k = 1 ∨ k = 2) {L : List Ky} (hks : keysD k l s.uses = ks) (hp : L.Perm ks) (hq : L.Pairwise fun x y => klt y x = false) (w : World) (hr : Rds w encU s.A s.uses) (hl : s.uses.length ≤ 100000) (hs : SortedU s.uses) (hrn : Rds w encN A l) (hln : l.length ≤ 100000) (hx : ∀ x ∈ l, ExOk k x.pod s.uses) :
    Calls Try.prog 26 #[.int .i64 k, .slice A l.length c, .agg s.cells] w fun e w' => ∃ A c, e = .returned (.slice A (L.map Ky.id).length c) ∧ Own w' w.heap.size 9 encS (.slice A (L.map Ky.id).length c) (L.map Ky.id) ∧ Below w.heap.size w w' :=
  (order_any k hk l A c s w hr hl hs hrn hln hx).mono fun e w' ⟨L2, A2, c2, hp2, hq2, he, ho, hb⟩ => by
    rw [hks] at hp2
    have e1 : L2 = L := sortK_eq (hp2.trans hp.symm) hq2 hq
    subst e1
    exact ⟨A2, c2, he, ho, hb⟩
end
theorem aheadV_any {k : Int} (hk : k = 0 ∨ k = 1 ∨ k = 2) {a b : Pd} {s : Sp} {v : Bool} (hv : aheadB k a b s.uses = v) (w : World) (hr : Rds w encU s.A s.uses) (hl : s.uses.length ≤ 100000) (hs : SortedU s.uses) (ha : ExOk k a s.uses) (hb : ExOk k b s.uses) :
    Calls Try.prog 15 #[.int .i64 k, .agg a.cells, .agg b.cells, .agg s.cells] w fun e w' => e = .returned (.bool v) ∧ Below w.heap.size w w' := by subst hv; exact ahead_any k hk a b s w hr hl hs ha hb

/-! ### the example -/
abbrev iA : ByteArray := ⟨#[97]⟩
abbrev iB : ByteArray := ⟨#[98]⟩
theorem blt_AB : blt iA iB = true := by rw [blt_eq]; decide
theorem blt_BA : blt iB iA = false := by rw [blt_eq]; decide
abbrev pA : Pd := ⟨⟨#[97]⟩, 0, false, 1, 5, 1, 0, 0, 0, ⟨#[120]⟩, 0⟩
abbrev pB : Pd := ⟨⟨#[98]⟩, (-1), false, 1, 9, 1, 0, 0, 0, ⟨#[120]⟩, 0⟩
abbrev pC : Pd := ⟨⟨#[99]⟩, 0, true, 0, 0, 0, 0, 0, 0, ⟨#[120]⟩, 0⟩
abbrev usW : List Us := [⟨iA, 8, 0, 0⟩, ⟨iB, 9, 0, 2⟩]
abbrev enW : List En := [⟨pA, 2⟩, ⟨pB, 1⟩, ⟨pC, 2⟩]
theorem sortedW : SortedU usW := fun i j h hj => by
  simp at hj
  obtain rfl : i = 0 := by omega
  obtain rfl : j = 1 := by omega
  exact blt_AB
theorem usOf_A : usOf usW iA = ⟨iA, 8, 0, 0⟩ := by
  have h : lowerU usW iA = 0 := by unfold lowerU; simp [blt_irrefl, blt_BA]
  unfold usOf isAtU
  rw [h]
  simp
theorem usOf_B : usOf usW iB = ⟨iB, 9, 0, 2⟩ := by
  have h : lowerU usW iB = 1 := by unfold lowerU; simp [blt_irrefl, blt_AB]
  unfold usOf isAtU
  rw [h]
  simp
theorem ex_A0 : excess 0 pA usW = 3 := by unfold excess; rw [show pA.id = iA from rfl, usOf_A]; rfl
theorem ex_B0 : excess 0 pB usW = 0 := by unfold excess; rw [show pB.id = iB from rfl, usOf_B]; rfl
theorem key_A0 : keyD 0 pA usW = ⟨0, 0, 3, ⟨#[97]⟩⟩ := by unfold keyD; rw [ex_A0]; rfl
theorem key_B0 : keyD 0 pB usW = ⟨1, (-1), 0, ⟨#[98]⟩⟩ := by unfold keyD; rw [ex_B0]; rfl
theorem keys_0 : keysD 0 enW usW = [⟨0, 0, 3, ⟨#[97]⟩⟩, ⟨1, (-1), 0, ⟨#[98]⟩⟩] := by
  have : keysD 0 enW usW = [keyD 0 pA usW, keyD 0 pB usW] := rfl
  rw [this, key_A0, key_B0]
theorem exok_A0 : ExOk 0 pA usW := ⟨by rw [ex_A0]; decide, by rw [ex_A0]; decide⟩
theorem exok_B0 : ExOk 0 pB usW := ⟨by rw [ex_B0]; decide, by rw [ex_B0]; decide⟩
theorem ex_C0 : excess 0 pC usW = 0 := by
  have h : lowerU usW pC.id = 2 := by unfold lowerU; simp [show blt iA ⟨#[99]⟩ = true by rw [blt_eq]; decide, show blt iB ⟨#[99]⟩ = true by rw [blt_eq]; decide]
  unfold excess usOf isAtU
  rw [h]
  rfl
theorem exok_C0 : ExOk 0 pC usW := ⟨by rw [ex_C0]; decide, by rw [ex_C0]; decide⟩
theorem exok_0 : ∀ x ∈ enW, ExOk 0 x.pod usW := by
  intro x hx
  simp at hx
  rcases hx with rfl | rfl | rfl
  · exact exok_A0
  · exact exok_B0
  · exact exok_C0
theorem ex_A1 : excess 1 pA usW = 0 := by unfold excess; rw [show pA.id = iA from rfl, usOf_A]; rfl
theorem ex_B1 : excess 1 pB usW = 0 := by unfold excess; rw [show pB.id = iB from rfl, usOf_B]; rfl
theorem key_A1 : keyD 1 pA usW = ⟨1, 0, 0, ⟨#[97]⟩⟩ := by unfold keyD; rw [ex_A1]; rfl
theorem key_B1 : keyD 1 pB usW = ⟨1, (-1), 0, ⟨#[98]⟩⟩ := by unfold keyD; rw [ex_B1]; rfl
theorem keys_1 : keysD 1 enW usW = [⟨1, 0, 0, ⟨#[97]⟩⟩, ⟨1, (-1), 0, ⟨#[98]⟩⟩] := by
  have : keysD 1 enW usW = [keyD 1 pA usW, keyD 1 pB usW] := rfl
  rw [this, key_A1, key_B1]
theorem exok_A1 : ExOk 1 pA usW := ⟨by rw [ex_A1]; decide, by rw [ex_A1]; decide⟩
theorem exok_B1 : ExOk 1 pB usW := ⟨by rw [ex_B1]; decide, by rw [ex_B1]; decide⟩
theorem ex_C1 : excess 1 pC usW = 0 := by
  have h : lowerU usW pC.id = 2 := by unfold lowerU; simp [show blt iA ⟨#[99]⟩ = true by rw [blt_eq]; decide, show blt iB ⟨#[99]⟩ = true by rw [blt_eq]; decide]
  unfold excess usOf isAtU
  rw [h]
  rfl
theorem exok_C1 : ExOk 1 pC usW := ⟨by rw [ex_C1]; decide, by rw [ex_C1]; decide⟩
theorem exok_1 : ∀ x ∈ enW, ExOk 1 x.pod usW := by
  intro x hx
  simp at hx
  rcases hx with rfl | rfl | rfl
  · exact exok_A1
  · exact exok_B1
  · exact exok_C1
theorem ex_A2 : excess 2 pA usW = -1 := by unfold excess; rw [show pA.id = iA from rfl, usOf_A]; rfl
theorem ex_B2 : excess 2 pB usW = 1 := by unfold excess; rw [show pB.id = iB from rfl, usOf_B]; rfl
theorem key_A2 : keyD 2 pA usW = ⟨1, 0, (-1), ⟨#[97]⟩⟩ := by unfold keyD; rw [ex_A2]; rfl
theorem key_B2 : keyD 2 pB usW = ⟨0, (-1), 1, ⟨#[98]⟩⟩ := by unfold keyD; rw [ex_B2]; rfl
theorem keys_2 : keysD 2 enW usW = [⟨1, 0, (-1), ⟨#[97]⟩⟩, ⟨0, (-1), 1, ⟨#[98]⟩⟩] := by
  have : keysD 2 enW usW = [keyD 2 pA usW, keyD 2 pB usW] := rfl
  rw [this, key_A2, key_B2]
theorem exok_A2 : ExOk 2 pA usW := ⟨by rw [ex_A2]; decide, by rw [ex_A2]; decide⟩
theorem exok_B2 : ExOk 2 pB usW := ⟨by rw [ex_B2]; decide, by rw [ex_B2]; decide⟩
theorem ex_C2 : excess 2 pC usW = 0 := by
  have h : lowerU usW pC.id = 2 := by unfold lowerU; simp [show blt iA ⟨#[99]⟩ = true by rw [blt_eq]; decide, show blt iB ⟨#[99]⟩ = true by rw [blt_eq]; decide]
  unfold excess usOf isAtU
  rw [h]
  rfl
theorem exok_C2 : ExOk 2 pC usW := ⟨by rw [ex_C2]; decide, by rw [ex_C2]; decide⟩
theorem exok_2 : ∀ x ∈ enW, ExOk 2 x.pod usW := by
  intro x hx
  simp at hx
  rcases hx with rfl | rfl | rfl
  · exact exok_A2
  · exact exok_B2
  · exact exok_C2
theorem lt_0 : klt ⟨0, 0, 3, ⟨#[97]⟩⟩ ⟨1, (-1), 0, ⟨#[98]⟩⟩ = true := by unfold klt; simp
theorem min_0 : IsMin [⟨0, 0, 3, ⟨#[97]⟩⟩, ⟨1, (-1), 0, ⟨#[98]⟩⟩] ⟨0, 0, 3, ⟨#[97]⟩⟩ := ⟨by simp, fun y hy => by
  simp at hy
  rcases hy with rfl | rfl
  · exact klt_irrefl _
  · exact klt_asymm lt_0⟩
theorem lt_1 : klt ⟨1, (-1), 0, ⟨#[98]⟩⟩ ⟨1, 0, 0, ⟨#[97]⟩⟩ = true := by unfold klt; simp
theorem min_1 : IsMin [⟨1, 0, 0, ⟨#[97]⟩⟩, ⟨1, (-1), 0, ⟨#[98]⟩⟩] ⟨1, (-1), 0, ⟨#[98]⟩⟩ := ⟨by simp, fun y hy => by
  simp at hy
  rcases hy with rfl | rfl
  · exact klt_asymm lt_1
  · exact klt_irrefl _⟩
theorem lt_2 : klt ⟨0, (-1), 1, ⟨#[98]⟩⟩ ⟨1, 0, (-1), ⟨#[97]⟩⟩ = true := by unfold klt; simp
theorem min_2 : IsMin [⟨1, 0, (-1), ⟨#[97]⟩⟩, ⟨0, (-1), 1, ⟨#[98]⟩⟩] ⟨0, (-1), 1, ⟨#[98]⟩⟩ := ⟨by simp, fun y hy => by
  simp at hy
  rcases hy with rfl | rfl
  · exact klt_asymm lt_2
  · exact klt_irrefl _⟩

/-- the world of the example -/
abbrev sW (w : World) : Sp := ⟨0, 0, 0, 0, (some ⟨w.heap.size + 1 + 1, 0, none⟩), usW, 2⟩
structure WQ (w W : World) : Prop where
  pa : Blk W w.heap.size 24 #[.string ⟨#[97]⟩, .int .i64 0, .bool false, .int .i64 1, .int .i64 5, .int .i64 1, .int .i64 0, .int .i64 0, .int .i64 0, .string ⟨#[120]⟩, .int .i64 0]
  pb : Blk W (w.heap.size + 1) 24 #[.string ⟨#[98]⟩, .int .i64 (-1), .bool false, .int .i64 1, .int .i64 9, .int .i64 1, .int .i64 0, .int .i64 0, .int .i64 0, .string ⟨#[120]⟩, .int .i64 0]
  smp : Blk W (w.heap.size + 1 + 1 + 1) 36 #[.int .i64 0, .int .i64 0, .int .i64 0, .int .i64 0, .slice (some ⟨w.heap.size + 1 + 1, 0, none⟩) 2 2]
  us : Rds W encU (some ⟨w.heap.size + 1 + 1, 0, none⟩) usW
  en : Rds W encN (some ⟨w.heap.size + 1 + 1 + 1 + 1, 0, none⟩) enW
  bel : Below w.heap.size w W
theorem WQ.below {w W W' : World} (h : WQ w W) (hb : Below W.heap.size W W') : WQ w W' := ⟨h.pa.belowAll hb, h.pb.belowAll hb, h.smp.belowAll hb, h.us.below hb, h.en.below hb, h.bel.trans (hb.mono h.bel.size)⟩
theorem WQ.new (w : World) : WQ w (((((w.alloc (.cells #[.string ⟨#[97]⟩, .int .i64 0, .bool false, .int .i64 1, .int .i64 5, .int .i64 1, .int .i64 0, .int .i64 0, .int .i64 0, .string ⟨#[120]⟩, .int .i64 0] 24)).alloc (.cells #[.string ⟨#[98]⟩, .int .i64 (-1), .bool false, .int .i64 1, .int .i64 9, .int .i64 1, .int .i64 0, .int .i64 0, .int .i64 0, .string ⟨#[120]⟩, .int .i64 0] 24)).alloc (.cells #[.string ⟨#[97]⟩, .int .i64 8, .int .i64 0, .int .i64 0, .string ⟨#[98]⟩, .int .i64 9, .int .i64 0, .int .i64 2] 33)).alloc (.cells #[.int .i64 0, .int .i64 0, .int .i64 0, .int .i64 0, .slice (some ⟨w.heap.size + 1 + 1, 0, none⟩) 2 2] 36)).alloc (.cells #[.string ⟨#[97]⟩, .int .i64 0, .bool false, .int .i64 1, .int .i64 5, .int .i64 1, .int .i64 0, .int .i64 0, .int .i64 0, .string ⟨#[120]⟩, .int .i64 0, .int .i64 2, .string ⟨#[98]⟩, .int .i64 (-1), .bool false, .int .i64 1, .int .i64 9, .int .i64 1, .int .i64 0, .int .i64 0, .int .i64 0, .string ⟨#[120]⟩, .int .i64 0, .int .i64 1, .string ⟨#[99]⟩, .int .i64 0, .bool true, .int .i64 0, .int .i64 0, .int .i64 0, .int .i64 0, .int .i64 0, .int .i64 0, .string ⟨#[120]⟩, .int .i64 0, .int .i64 2] 48)) := by
  obtain ⟨w1, h1⟩ : ∃ w1, w1 = w.alloc (.cells #[.string ⟨#[97]⟩, .int .i64 0, .bool false, .int .i64 1, .int .i64 5, .int .i64 1, .int .i64 0, .int .i64 0, .int .i64 0, .string ⟨#[120]⟩, .int .i64 0] 24) := ⟨_, rfl⟩
  obtain ⟨w2, h2⟩ : ∃ w2, w2 = w1.alloc (.cells #[.string ⟨#[98]⟩, .int .i64 (-1), .bool false, .int .i64 1, .int .i64 9, .int .i64 1, .int .i64 0, .int .i64 0, .int .i64 0, .string ⟨#[120]⟩, .int .i64 0] 24) := ⟨_, rfl⟩
  obtain ⟨w3, h3⟩ : ∃ w3, w3 = w2.alloc (.cells #[.string ⟨#[97]⟩, .int .i64 8, .int .i64 0, .int .i64 0, .string ⟨#[98]⟩, .int .i64 9, .int .i64 0, .int .i64 2] 33) := ⟨_, rfl⟩
  obtain ⟨w4, h4⟩ : ∃ w4, w4 = w3.alloc (.cells #[.int .i64 0, .int .i64 0, .int .i64 0, .int .i64 0, .slice (some ⟨w.heap.size + 1 + 1, 0, none⟩) 2 2] 36) := ⟨_, rfl⟩
  rw [← h1, ← h2, ← h3, ← h4]
  have z1 : w1.heap.size = w.heap.size + 1 := by rw [h1]; simp
  have z2 : w2.heap.size = w.heap.size + 1 + 1 := by rw [h2, ← z1]; simp
  have z3 : w3.heap.size = w.heap.size + 1 + 1 + 1 := by rw [h3, ← z2]; simp
  have z4 : w4.heap.size = w.heap.size + 1 + 1 + 1 + 1 := by rw [h4, ← z3]; simp
  have pa : Blk w1 w.heap.size 24 #[.string ⟨#[97]⟩, .int .i64 0, .bool false, .int .i64 1, .int .i64 5, .int .i64 1, .int .i64 0, .int .i64 0, .int .i64 0, .string ⟨#[120]⟩, .int .i64 0] := by rw [h1]; exact Blk.new _ _ _
  have pb : Blk w2 (w.heap.size + 1) 24 #[.string ⟨#[98]⟩, .int .i64 (-1), .bool false, .int .i64 1, .int .i64 9, .int .i64 1, .int .i64 0, .int .i64 0, .int .i64 0, .string ⟨#[120]⟩, .int .i64 0] := by rw [h2, ← z1]; exact Blk.new _ _ _
  have us : Rds w3 encU (some ⟨w.heap.size + 1 + 1, 0, none⟩) usW := by rw [h3, ← z2]; exact Rds.made w2 encU usW 33 #[.string ⟨#[97]⟩, .int .i64 8, .int .i64 0, .int .i64 0, .string ⟨#[98]⟩, .int .i64 9, .int .i64 0, .int .i64 2] (0, 0) rfl
  have sm : Blk w4 (w.heap.size + 1 + 1 + 1) 36 #[.int .i64 0, .int .i64 0, .int .i64 0, .int .i64 0, .slice (some ⟨w.heap.size + 1 + 1, 0, none⟩) 2 2] := by rw [h4, ← z3]; exact Blk.new _ _ _
  have b1 : Below w.heap.size w w1 := by rw [h1]; exact (Below.refl _ _).alloc (Nat.le_refl _) _
  have b2 : Below w.heap.size w w2 := by rw [h2]; exact b1.alloc b1.size _
  have b3 : Below w.heap.size w w3 := by rw [h3]; exact b2.alloc b2.size _
  have b4 : Below w.heap.size w w4 := by rw [h4]; exact b3.alloc b3.size _
  refine ⟨?_, ?_, sm.alloc _, ?_, ?_, b4.alloc b4.size _⟩
  · refine Blk.alloc ?_ _; rw [h4]; refine Blk.alloc ?_ _; rw [h3]; refine Blk.alloc ?_ _; rw [h2]; exact pa.alloc _
  · refine Blk.alloc ?_ _; rw [h4]; refine Blk.alloc ?_ _; rw [h3]; exact pb.alloc _
  · refine Rds.alloc ?_ _; rw [h4]; exact us.alloc _
  · rw [← z4]; exact Rds.made w4 encN enW 48 #[.string ⟨#[97]⟩, .int .i64 0, .bool false, .int .i64 1, .int .i64 5, .int .i64 1, .int .i64 0, .int .i64 0, .int .i64 0, .string ⟨#[120]⟩, .int .i64 0, .int .i64 2, .string ⟨#[98]⟩, .int .i64 (-1), .bool false, .int .i64 1, .int .i64 9, .int .i64 1, .int .i64 0, .int .i64 0, .int .i64 0, .string ⟨#[120]⟩, .int .i64 0, .int .i64 1, .string ⟨#[99]⟩, .int .i64 0, .bool true, .int .i64 0, .int .i64 0, .int .i64 0, .int .i64 0, .int .i64 0, .int .i64 0, .string ⟨#[120]⟩, .int .i64 0, .int .i64 2] (0, 0) rfl
section
variable {w W : World} (h : WQ w W)
include h
theorem aw_first0 : Calls Try.prog 27 #[.int .i64 0, .slice (some ⟨w.heap.size + 1 + 1 + 1 + 1, 0, none⟩) 3 3, .agg #[.int .i64 0, .int .i64 0, .int .i64 0, .int .i64 0, .slice (some ⟨w.heap.size + 1 + 1, 0, none⟩) 2 2]] W fun e w' => e = .returned (.tuple #[.string ⟨#[97]⟩, .bool true]) ∧ Below W.heap.size W w' :=
  firstV_any (s := sW w) (l := enW) (c := 3) (by decide) keys_0 min_0 W h.us (show usW.length ≤ 100000 by decide) sortedW h.en (by decide) exok_0
theorem aw_first2 : Calls Try.prog 27 #[.int .i64 2, .slice (some ⟨w.heap.size + 1 + 1 + 1 + 1, 0, none⟩) 3 3, .agg #[.int .i64 0, .int .i64 0, .int .i64 0, .int .i64 0, .slice (some ⟨w.heap.size + 1 + 1, 0, none⟩) 2 2]] W fun e w' => e = .returned (.tuple #[.string ⟨#[98]⟩, .bool true]) ∧ Below W.heap.size W w' :=
  firstV_any (s := sW w) (l := enW) (c := 3) (by decide) keys_2 min_2 W h.us (show usW.length ≤ 100000 by decide) sortedW h.en (by decide) exok_2
theorem aw_firstN : Calls Try.prog 27 #[.int .i64 2, .slice none 0 0, .agg #[.int .i64 0, .int .i64 0, .int .i64 0, .int .i64 0, .slice (some ⟨w.heap.size + 1 + 1, 0, none⟩) 2 2]] W fun e w' => e = .returned (.tuple #[.string ⟨#[]⟩, .bool false]) ∧ Below W.heap.size W w' :=
  firstNil_any (s := sW w) (by decide) W h.us (show usW.length ≤ 100000 by decide) sortedW
theorem aw_order : Calls Try.prog 26 #[.int .i64 1, .slice (some ⟨w.heap.size + 1 + 1 + 1 + 1, 0, none⟩) 3 3, .agg #[.int .i64 0, .int .i64 0, .int .i64 0, .int .i64 0, .slice (some ⟨w.heap.size + 1 + 1, 0, none⟩) 2 2]] W fun e w' => ∃ A c, e = .returned (.slice A 2 c) ∧ Own w' W.heap.size 9 encS (.slice A 2 c) [iB, iA] ∧ Below W.heap.size W w' :=
  orderV_any (s := sW w) (l := enW) (c := 3) (L := [⟨1, (-1), 0, ⟨#[98]⟩⟩, ⟨1, 0, 0, ⟨#[97]⟩⟩]) (by decide) keys_1 (List.Perm.swap _ _ _) (List.Pairwise.cons (fun y hy => by simp at hy; subst hy; exact klt_asymm lt_1) (List.Pairwise.cons (by simp) List.Pairwise.nil)) W h.us (show usW.length ≤ 100000 by decide) sortedW h.en (by decide) exok_1
theorem aw_ahead1 : Calls Try.prog 15 #[.int .i64 0, .agg #[.string ⟨#[97]⟩, .int .i64 0, .bool false, .int .i64 1, .int .i64 5, .int .i64 1, .int .i64 0, .int .i64 0, .int .i64 0, .string ⟨#[120]⟩, .int .i64 0], .agg #[.string ⟨#[98]⟩, .int .i64 (-1), .bool false, .int .i64 1, .int .i64 9, .int .i64 1, .int .i64 0, .int .i64 0, .int .i64 0, .string ⟨#[120]⟩, .int .i64 0], .agg #[.int .i64 0, .int .i64 0, .int .i64 0, .int .i64 0, .slice (some ⟨w.heap.size + 1 + 1, 0, none⟩) 2 2]] W fun e w' => e = .returned (.bool true) ∧ Below W.heap.size W w' :=
  aheadV_any (s := sW w) (a := pA) (b := pB) (by decide) (by unfold aheadB; rw [key_A0, key_B0]; exact lt_0) W h.us (show usW.length ≤ 100000 by decide) sortedW exok_A0 exok_B0
theorem aw_ahead2 : Calls Try.prog 15 #[.int .i64 0, .agg #[.string ⟨#[98]⟩, .int .i64 (-1), .bool false, .int .i64 1, .int .i64 9, .int .i64 1, .int .i64 0, .int .i64 0, .int .i64 0, .string ⟨#[120]⟩, .int .i64 0], .agg #[.string ⟨#[97]⟩, .int .i64 0, .bool false, .int .i64 1, .int .i64 5, .int .i64 1, .int .i64 0, .int .i64 0, .int .i64 0, .string ⟨#[120]⟩, .int .i64 0], .agg #[.int .i64 0, .int .i64 0, .int .i64 0, .int .i64 0, .slice (some ⟨w.heap.size + 1 + 1, 0, none⟩) 2 2]] W fun e w' => e = .returned (.bool false) ∧ Below W.heap.size W w' :=
  aheadV_any (s := sW w) (a := pB) (b := pA) (by decide) (by unfold aheadB; rw [key_A0, key_B0]; exact klt_asymm lt_0) W h.us (show usW.length ≤ 100000 by decide) sortedW exok_B0 exok_A0
end
theorem aw_asked0 (W : World) : Calls Try.prog 20 #[.agg #[.string ⟨#[97]⟩, .int .i64 0, .bool false, .int .i64 1, .int .i64 5, .int .i64 1, .int .i64 0, .int .i64 0, .int .i64 0, .string ⟨#[120]⟩, .int .i64 0], .int .i64 0] W fun e w' => e = .returned (.int .i64 5) ∧ Below W.heap.size W w' := askedV_any (p := pA) rfl W
theorem aw_asked1 (W : World) : Calls Try.prog 20 #[.agg #[.string ⟨#[97]⟩, .int .i64 0, .bool false, .int .i64 1, .int .i64 5, .int .i64 1, .int .i64 0, .int .i64 0, .int .i64 0, .string ⟨#[120]⟩, .int .i64 0], .int .i64 1] W fun e w' => e = .returned (.int .i64 0) ∧ Below W.heap.size W w' := askedV_any (p := pA) rfl W
theorem aw_may1 (W : World) : Calls Try.prog 23 #[.agg #[.string ⟨#[99]⟩, .int .i64 0, .bool true, .int .i64 0, .int .i64 0, .int .i64 0, .int .i64 0, .int .i64 0, .int .i64 0, .string ⟨#[120]⟩, .int .i64 0, .int .i64 2]] W fun e w' => e = .returned (.bool false) ∧ Below W.heap.size W w' := mayV_any (x := ⟨pC, 2⟩) rfl W
theorem aw_may2 (W : World) : Calls Try.prog 23 #[.agg #[.string ⟨#[97]⟩, .int .i64 0, .bool false, .int .i64 1, .int .i64 5, .int .i64 1, .int .i64 0, .int .i64 0, .int .i64 0, .string ⟨#[120]⟩, .int .i64 0, .int .i64 2]] W fun e w' => e = .returned (.bool true) ∧ Below W.heap.size W w' := mayV_any (x := ⟨pA, 2⟩) rfl W
theorem WQ.e0 {w W : World} (h : WQ w W) : W.cell? ⟨w.heap.size + 1 + 1 + 1 + 1, 0, none⟩ = some (.string ⟨#[97]⟩) ∧ W.cell? ⟨w.heap.size + 1 + 1 + 1 + 1, 1, none⟩ = some (.int .i64 0) ∧ W.cell? ⟨w.heap.size + 1 + 1 + 1 + 1, 2, none⟩ = some (.bool false) ∧ W.cell? ⟨w.heap.size + 1 + 1 + 1 + 1, 3, none⟩ = some (.int .i64 1) ∧ W.cell? ⟨w.heap.size + 1 + 1 + 1 + 1, 4, none⟩ = some (.int .i64 5) ∧ W.cell? ⟨w.heap.size + 1 + 1 + 1 + 1, 5, none⟩ = some (.int .i64 1) ∧ W.cell? ⟨w.heap.size + 1 + 1 + 1 + 1, 6, none⟩ = some (.int .i64 0) ∧ W.cell? ⟨w.heap.size + 1 + 1 + 1 + 1, 7, none⟩ = some (.int .i64 0) ∧ W.cell? ⟨w.heap.size + 1 + 1 + 1 + 1, 8, none⟩ = some (.int .i64 0) ∧ W.cell? ⟨w.heap.size + 1 + 1 + 1 + 1, 9, none⟩ = some (.string ⟨#[120]⟩) ∧ W.cell? ⟨w.heap.size + 1 + 1 + 1 + 1, 10, none⟩ = some (.int .i64 0) ∧ W.cell? ⟨w.heap.size + 1 + 1 + 1 + 1, 11, none⟩ = some (.int .i64 2) := by
  obtain ⟨b, off, e, _, hc⟩ := h.en.en (i := 0) (by decide)
  injection e with e
  injection e with e1 e2
  subst e1
  subst e2
  exact hc
theorem WQ.e2 {w W : World} (h : WQ w W) : W.cell? ⟨w.heap.size + 1 + 1 + 1 + 1, 24, none⟩ = some (.string ⟨#[99]⟩) ∧ W.cell? ⟨w.heap.size + 1 + 1 + 1 + 1, 25, none⟩ = some (.int .i64 0) ∧ W.cell? ⟨w.heap.size + 1 + 1 + 1 + 1, 26, none⟩ = some (.bool true) ∧ W.cell? ⟨w.heap.size + 1 + 1 + 1 + 1, 27, none⟩ = some (.int .i64 0) ∧ W.cell? ⟨w.heap.size + 1 + 1 + 1 + 1, 28, none⟩ = some (.int .i64 0) ∧ W.cell? ⟨w.heap.size + 1 + 1 + 1 + 1, 29, none⟩ = some (.int .i64 0) ∧ W.cell? ⟨w.heap.size + 1 + 1 + 1 + 1, 30, none⟩ = some (.int .i64 0) ∧ W.cell? ⟨w.heap.size + 1 + 1 + 1 + 1, 31, none⟩ = some (.int .i64 0) ∧ W.cell? ⟨w.heap.size + 1 + 1 + 1 + 1, 32, none⟩ = some (.int .i64 0) ∧ W.cell? ⟨w.heap.size + 1 + 1 + 1 + 1, 33, none⟩ = some (.string ⟨#[120]⟩) ∧ W.cell? ⟨w.heap.size + 1 + 1 + 1 + 1, 34, none⟩ = some (.int .i64 0) ∧ W.cell? ⟨w.heap.size + 1 + 1 + 1 + 1, 35, none⟩ = some (.int .i64 2) := by
  obtain ⟨b, off, e, _, hc⟩ := h.en.en (i := 2) (by decide)
  injection e with e
  injection e with e1 e2
  subst e1
  subst e2
  exact hc
set_option maxRecDepth 100000 in
set_option maxHeartbeats 16000000 in
theorem awake20_any (w : World) :
    Calls Try.prog 11 #[] w fun e w' => e = .returned (.bool true) ∧ Below w.heap.size w w' := by
  have HQ := Lib.hid (WQ.new w)
  go_enter Try.func11, Try.ntmps11
  go_wp2_with fail
  refine (aw_first0 HQ.out).mono ?_; rintro e v ⟨rfl, hb⟩
  have HQ := Lib.hid (HQ.out.below hb)
  clear hb
  have cs := HQ.out.smp.cell
  go_wp2_with fail
  refine (aw_first2 HQ.out).mono ?_; rintro e v ⟨rfl, hb⟩
  have HQ := Lib.hid (HQ.out.below hb)
  clear hb
  clear cs
  have cs := HQ.out.smp.cell
  go_wp2_with fail
  refine (aw_firstN HQ.out).mono ?_; rintro e v ⟨rfl, hb⟩
  have HQ := Lib.hid (HQ.out.below hb)
  clear hb
  clear cs
  have cs := HQ.out.smp.cell
  go_wp2_with fail
  refine (aw_order HQ.out).mono ?_; rintro e v ⟨A, c, rfl, hO, hb⟩
  have HQ := Lib.hid (HQ.out.below hb)
  have HO := Lib.hid hO.toRds
  clear hb hO cs
  obtain ⟨b0, o0, rfl, hb0, d0⟩ := HO.out.str (i := 0) (by decide)
  simp only [Nat.add_zero, List.getElem_cons_zero] at d0
  have ca := HQ.out.pa.cell
  have cb := HQ.out.pb.cell
  have cs := HQ.out.smp.cell
  go_wp2_with fail
  refine (aw_ahead1 HQ.out).mono ?_; rintro e v ⟨rfl, hb⟩
  have HQ := Lib.hid (HQ.out.below hb)
  clear hb
  clear ca cb cs d0
  have ca := HQ.out.pa.cell
  have cb := HQ.out.pb.cell
  have cs := HQ.out.smp.cell
  go_wp2_with fail
  refine (aw_ahead2 HQ.out).mono ?_; rintro e v ⟨rfl, hb⟩
  have HQ := Lib.hid (HQ.out.below hb)
  clear hb
  clear ca cb cs
  have ca := HQ.out.pa.cell
  go_wp2_with fail
  refine (aw_asked0 _).mono ?_; rintro e v ⟨rfl, hb⟩
  have HQ := Lib.hid (HQ.out.below hb)
  clear hb
  clear ca
  have ca := HQ.out.pa.cell
  go_wp2_with fail
  refine (aw_asked1 _).mono ?_; rintro e v ⟨rfl, hb⟩
  have HQ := Lib.hid (HQ.out.below hb)
  clear hb
  clear ca
  obtain ⟨ce0, ce1, ce2, ce3, ce4, ce5, ce6, ce7, ce8, ce9, ce10, ce11⟩ := HQ.out.e2
  go_wp2_with fail
  refine (aw_may1 _).mono ?_; rintro e v ⟨rfl, hb⟩
  have HQ := Lib.hid (HQ.out.below hb)
  clear hb
  clear ce0 ce1 ce2 ce3 ce4 ce5 ce6 ce7 ce8 ce9 ce10 ce11
  obtain ⟨ce0, ce1, ce2, ce3, ce4, ce5, ce6, ce7, ce8, ce9, ce10, ce11⟩ := HQ.out.e0
  go_wp2_with fail
  refine (aw_may2 _).mono ?_; rintro e v ⟨rfl, hb⟩
  have HQ := Lib.hid (HQ.out.below hb)
  clear hb
  go_wp2_with fail
  go_ret
  exact ⟨rfl, HQ.out.bel⟩
end Go.Proofs.Ytlnpmdchhmbblaa
