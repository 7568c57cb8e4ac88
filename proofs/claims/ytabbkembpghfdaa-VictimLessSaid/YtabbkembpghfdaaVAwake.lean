/- bilgelaw21.awake: the document's own examples come true. -/
import Derived.Test.YtabbkembpghfdaaVChoose
namespace Go.Proofs.Ytabbkembpghfdaa
open Go.RowKit

/-- the order in which they are asked is one, where no two have one Id -/
theorem sortV_eq : ∀ {L1 L2 : List Pd}, L1.Perm L2 → (∀ x ∈ L2, ∀ y ∈ L2, x.id = y.id → x = y) → (L1.Pairwise fun x y => vlt y x = false) → (L2.Pairwise fun x y => vlt y x = false) → L1 = L2
  | [], L2, hp, _, _, _ => by rw [List.nil_perm.1 hp]
  | x :: L1, [], hp, _, _, _ => by simp at hp
  | x :: L1, y :: L2, hp, hi, h1, h2 => by
    have hx : x ∈ y :: L2 := hp.subset (by simp)
    have hy : y ∈ x :: L1 := hp.symm.subset (by simp)
    have e : x = y := by
      rcases List.mem_cons.1 hx with h | h
      · exact h
      · rcases List.mem_cons.1 hy with h' | h'
        · exact h'.symm
        · exact hi x hx y (by simp) (vlt_tie ((List.pairwise_cons.1 h2).1 x h) ((List.pairwise_cons.1 h1).1 y h')).2
    subst e
    rw [sortV_eq ((List.perm_cons x).1 hp) (fun a ha b hb => hi a (List.mem_cons_of_mem _ ha) b (List.mem_cons_of_mem _ hb)) (List.pairwise_cons.1 h1).2 (List.pairwise_cons.1 h2).2]
abbrev xA : Pd := ⟨⟨#[97]⟩, 1, false, 4, 0, 0, 0, 0, 0, ⟨#[120]⟩, 0⟩
abbrev xB : Pd := ⟨⟨#[98]⟩, 2, false, 4, 0, 0, 0, 0, 0, ⟨#[120]⟩, 0⟩
abbrev xP (cr : Bool) : Pd := ⟨⟨#[112]⟩, 9, cr, 5, 0, 0, 0, 0, 0, ⟨#[120]⟩, 0⟩
theorem wfA : xA.Wf := by constructor <;> first | exact ⟨by dsimp only; decide, by dsimp only; decide⟩ | (dsimp only; decide)
theorem wfB : xB.Wf := by constructor <;> first | exact ⟨by dsimp only; decide, by dsimp only; decide⟩ | (dsimp only; decide)
theorem wfP (cr : Bool) : (xP cr).Wf := by constructor <;> first | exact ⟨by dsimp only; decide, by dsimp only; decide⟩ | (dsimp only; decide)
structure VQ (cr : Bool) (w W : World) : Prop where
  pa : Blk W (w.heap.size) 25 #[.string ⟨#[97]⟩, .int .i64 1, .bool false, .int .i64 4, .int .i64 0, .int .i64 0, .int .i64 0, .int .i64 0, .int .i64 0, .string ⟨#[120]⟩, .int .i64 0]
  pb : Blk W (w.heap.size + 1) 25 #[.string ⟨#[98]⟩, .int .i64 2, .bool false, .int .i64 4, .int .i64 0, .int .i64 0, .int .i64 0, .int .i64 0, .int .i64 0, .string ⟨#[120]⟩, .int .i64 0]
  pp : Blk W (w.heap.size + 1 + 1) 25 #[.string ⟨#[112]⟩, .int .i64 9, .bool cr, .int .i64 5, .int .i64 0, .int .i64 0, .int .i64 0, .int .i64 0, .int .i64 0, .string ⟨#[120]⟩, .int .i64 0]
  rm : Blk W (w.heap.size + 1 + 1 + 1) 22 #[.int .i64 10, .int .i64 0, .int .i64 0]
  bel : Below w.heap.size w W
theorem VQ.below {cr : Bool} {w W W' : World} (h : VQ cr w W) (hb : Below W.heap.size W W') : VQ cr w W' := ⟨h.pa.belowAll hb, h.pb.belowAll hb, h.pp.belowAll hb, h.rm.belowAll hb, h.bel.trans (hb.mono h.bel.size)⟩
theorem VQ.alloc {cr : Bool} {w W : World} (h : VQ cr w W) (o : Obj) : VQ cr w (W.alloc o) := ⟨h.pa.alloc o, h.pb.alloc o, h.pp.alloc o, h.rm.alloc o, h.bel.alloc h.bel.size o⟩
theorem VQ.drew {cr : Bool} {w W : World} (h : VQ cr w W) : VQ cr w W.drew := ⟨h.pa.drew, h.pb.drew, h.pp.drew, h.rm.drew, h.bel.drew⟩
theorem VQ.new (cr : Bool) (w : World) : VQ cr w ((((w.alloc (.cells #[.string ⟨#[97]⟩, .int .i64 1, .bool false, .int .i64 4, .int .i64 0, .int .i64 0, .int .i64 0, .int .i64 0, .int .i64 0, .string ⟨#[120]⟩, .int .i64 0] 25)).alloc (.cells #[.string ⟨#[98]⟩, .int .i64 2, .bool false, .int .i64 4, .int .i64 0, .int .i64 0, .int .i64 0, .int .i64 0, .int .i64 0, .string ⟨#[120]⟩, .int .i64 0] 25)).alloc (.cells #[.string ⟨#[112]⟩, .int .i64 9, .bool cr, .int .i64 5, .int .i64 0, .int .i64 0, .int .i64 0, .int .i64 0, .int .i64 0, .string ⟨#[120]⟩, .int .i64 0] 25)).alloc (.cells #[.int .i64 10, .int .i64 0, .int .i64 0] 22)) := by
  have z1 : (w.alloc (.cells #[.string ⟨#[97]⟩, .int .i64 1, .bool false, .int .i64 4, .int .i64 0, .int .i64 0, .int .i64 0, .int .i64 0, .int .i64 0, .string ⟨#[120]⟩, .int .i64 0] 25)).heap.size = w.heap.size + 1 := by simp
  have z2 : ((w.alloc (.cells #[.string ⟨#[97]⟩, .int .i64 1, .bool false, .int .i64 4, .int .i64 0, .int .i64 0, .int .i64 0, .int .i64 0, .int .i64 0, .string ⟨#[120]⟩, .int .i64 0] 25)).alloc (.cells #[.string ⟨#[98]⟩, .int .i64 2, .bool false, .int .i64 4, .int .i64 0, .int .i64 0, .int .i64 0, .int .i64 0, .int .i64 0, .string ⟨#[120]⟩, .int .i64 0] 25)).heap.size = w.heap.size + 1 + 1 := by simp
  have z3 : (((w.alloc (.cells #[.string ⟨#[97]⟩, .int .i64 1, .bool false, .int .i64 4, .int .i64 0, .int .i64 0, .int .i64 0, .int .i64 0, .int .i64 0, .string ⟨#[120]⟩, .int .i64 0] 25)).alloc (.cells #[.string ⟨#[98]⟩, .int .i64 2, .bool false, .int .i64 4, .int .i64 0, .int .i64 0, .int .i64 0, .int .i64 0, .int .i64 0, .string ⟨#[120]⟩, .int .i64 0] 25)).alloc (.cells #[.string ⟨#[112]⟩, .int .i64 9, .bool cr, .int .i64 5, .int .i64 0, .int .i64 0, .int .i64 0, .int .i64 0, .int .i64 0, .string ⟨#[120]⟩, .int .i64 0] 25)).heap.size = w.heap.size + 1 + 1 + 1 := by simp
  have b0 := Blk.new w 25 #[.string ⟨#[97]⟩, .int .i64 1, .bool false, .int .i64 4, .int .i64 0, .int .i64 0, .int .i64 0, .int .i64 0, .int .i64 0, .string ⟨#[120]⟩, .int .i64 0]
  have b1 := Blk.new (w.alloc (.cells #[.string ⟨#[97]⟩, .int .i64 1, .bool false, .int .i64 4, .int .i64 0, .int .i64 0, .int .i64 0, .int .i64 0, .int .i64 0, .string ⟨#[120]⟩, .int .i64 0] 25)) 25 #[.string ⟨#[98]⟩, .int .i64 2, .bool false, .int .i64 4, .int .i64 0, .int .i64 0, .int .i64 0, .int .i64 0, .int .i64 0, .string ⟨#[120]⟩, .int .i64 0]
  rw [z1] at b1
  have b2 := Blk.new ((w.alloc (.cells #[.string ⟨#[97]⟩, .int .i64 1, .bool false, .int .i64 4, .int .i64 0, .int .i64 0, .int .i64 0, .int .i64 0, .int .i64 0, .string ⟨#[120]⟩, .int .i64 0] 25)).alloc (.cells #[.string ⟨#[98]⟩, .int .i64 2, .bool false, .int .i64 4, .int .i64 0, .int .i64 0, .int .i64 0, .int .i64 0, .int .i64 0, .string ⟨#[120]⟩, .int .i64 0] 25)) 25 #[.string ⟨#[112]⟩, .int .i64 9, .bool cr, .int .i64 5, .int .i64 0, .int .i64 0, .int .i64 0, .int .i64 0, .int .i64 0, .string ⟨#[120]⟩, .int .i64 0]
  rw [z2] at b2
  have b3 := Blk.new (((w.alloc (.cells #[.string ⟨#[97]⟩, .int .i64 1, .bool false, .int .i64 4, .int .i64 0, .int .i64 0, .int .i64 0, .int .i64 0, .int .i64 0, .string ⟨#[120]⟩, .int .i64 0] 25)).alloc (.cells #[.string ⟨#[98]⟩, .int .i64 2, .bool false, .int .i64 4, .int .i64 0, .int .i64 0, .int .i64 0, .int .i64 0, .int .i64 0, .string ⟨#[120]⟩, .int .i64 0] 25)).alloc (.cells #[.string ⟨#[112]⟩, .int .i64 9, .bool cr, .int .i64 5, .int .i64 0, .int .i64 0, .int .i64 0, .int .i64 0, .int .i64 0, .string ⟨#[120]⟩, .int .i64 0] 25)) 22 #[.int .i64 10, .int .i64 0, .int .i64 0]
  rw [z3] at b3
  have bel : Below w.heap.size w ((((w.alloc (.cells #[.string ⟨#[97]⟩, .int .i64 1, .bool false, .int .i64 4, .int .i64 0, .int .i64 0, .int .i64 0, .int .i64 0, .int .i64 0, .string ⟨#[120]⟩, .int .i64 0] 25)).alloc (.cells #[.string ⟨#[98]⟩, .int .i64 2, .bool false, .int .i64 4, .int .i64 0, .int .i64 0, .int .i64 0, .int .i64 0, .int .i64 0, .string ⟨#[120]⟩, .int .i64 0] 25)).alloc (.cells #[.string ⟨#[112]⟩, .int .i64 9, .bool cr, .int .i64 5, .int .i64 0, .int .i64 0, .int .i64 0, .int .i64 0, .int .i64 0, .string ⟨#[120]⟩, .int .i64 0] 25)).alloc (.cells #[.int .i64 10, .int .i64 0, .int .i64 0] 22)) := ((((Below.refl w.heap.size w).alloc (Nat.le_refl _) _).alloc (by rw [z1]; omega) _).alloc (by rw [z2]; omega) _).alloc (by rw [z3]; omega) _
  exact ⟨(((b0.alloc _).alloc _).alloc _), ((b1.alloc _).alloc _), (b2.alloc _), b3, bel⟩

theorem aw_choose1 (W0 : World) {n : Nat} (hn : W0.heap.size = n) : Calls Try.prog 16 #[.agg #[.int .i64 10, .int .i64 0, .int .i64 0], .slice (some ⟨n, 0, none⟩) 2 2, .agg #[.string ⟨#[112]⟩, .int .i64 9, .bool true, .int .i64 5, .int .i64 0, .int .i64 0, .int .i64 0, .int .i64 0, .int .i64 0, .string ⟨#[120]⟩, .int .i64 0]] (W0.alloc (.cells #[.string ⟨#[97]⟩, .int .i64 1, .bool false, .int .i64 4, .int .i64 0, .int .i64 0, .int .i64 0, .int .i64 0, .int .i64 0, .string ⟨#[120]⟩, .int .i64 0, .string ⟨#[98]⟩, .int .i64 2, .bool false, .int .i64 4, .int .i64 0, .int .i64 0, .int .i64 0, .int .i64 0, .int .i64 0, .string ⟨#[120]⟩, .int .i64 0] 25)) fun e w' => ∃ (A : Option Addr) (c : Nat), e = .returned (.tuple #[.slice A 1 c, .bool true]) ∧ Own w' W0.heap.size 9 encS (.slice A 1 c) [⟨#[97]⟩] ∧ Below W0.heap.size W0 w' := by
  subst hn
  refine (choose_any ⟨10, 0, 0⟩ (xP true) [xA, xB] _ 2 _ (Rds.made W0 encP [xA, xB] 25 #[.string ⟨#[97]⟩, .int .i64 1, .bool false, .int .i64 4, .int .i64 0, .int .i64 0, .int .i64 0, .int .i64 0, .int .i64 0, .string ⟨#[120]⟩, .int .i64 0, .string ⟨#[98]⟩, .int .i64 2, .bool false, .int .i64 4, .int .i64 0, .int .i64 0, .int .i64 0, .int .i64 0, .int .i64 0, .string ⟨#[120]⟩, .int .i64 0] (0, 0) rfl) (by decide) (fun x hx => by simp at hx; rcases hx with rfl | rfl <;> first | exact wfA | exact wfB) (wfP true)).mono ?_
  rintro e w' ⟨K, hp, hs, h⟩
  have hb0 : Below W0.heap.size W0 (W0.alloc (.cells #[.string ⟨#[97]⟩, .int .i64 1, .bool false, .int .i64 4, .int .i64 0, .int .i64 0, .int .i64 0, .int .i64 0, .int .i64 0, .string ⟨#[120]⟩, .int .i64 0, .string ⟨#[98]⟩, .int .i64 2, .bool false, .int .i64 4, .int .i64 0, .int .i64 0, .int .i64 0, .int .i64 0, .int .i64 0, .string ⟨#[120]⟩, .int .i64 0] 25)) := (Below.refl _ _).alloc (Nat.le_refl _) _
  have hK : K = [xB, xA] := sortV_eq (hp.trans (List.Perm.swap _ _ _)) (by intro x hx y hy h; simp at hx hy; rcases hx with rfl | rfl <;> rcases hy with rfl | rfl <;> first | rfl | exact absurd h (by decide)) hs (by decide)
  subst hK
  rcases h with ⟨hf, rfl, hb⟩ | ⟨hf, O, A, c, hpo, _, rfl, ho, hb⟩
  · exact absurd hf (by decide)
  · have hO : O = [⟨#[97]⟩] := by
      rw [show (chooseD ⟨10, 0, 0⟩ (stayD (xP true) [xA, xB]) [xB, xA]).2 = [⟨#[97]⟩] from rfl] at hpo
      simpa using hpo
    subst hO
    exact ⟨A, c, rfl, ho.mono hb0.size, below_rV hb0 hb⟩
theorem aw_choose2 (W0 : World) {n : Nat} (hn : W0.heap.size = n) : Calls Try.prog 16 #[.agg #[.int .i64 10, .int .i64 0, .int .i64 0], .slice (some ⟨n, 0, none⟩) 2 2, .agg #[.string ⟨#[112]⟩, .int .i64 9, .bool false, .int .i64 5, .int .i64 0, .int .i64 0, .int .i64 0, .int .i64 0, .int .i64 0, .string ⟨#[120]⟩, .int .i64 0]] (W0.alloc (.cells #[.string ⟨#[97]⟩, .int .i64 1, .bool false, .int .i64 4, .int .i64 0, .int .i64 0, .int .i64 0, .int .i64 0, .int .i64 0, .string ⟨#[120]⟩, .int .i64 0, .string ⟨#[98]⟩, .int .i64 2, .bool false, .int .i64 4, .int .i64 0, .int .i64 0, .int .i64 0, .int .i64 0, .int .i64 0, .string ⟨#[120]⟩, .int .i64 0] 25)) fun e w' => ∃ (A : Option Addr) (c : Nat), e = .returned (.tuple #[.slice A 0 c, .bool false]) ∧ Own w' W0.heap.size 9 encS (.slice A 0 c) [] ∧ Below W0.heap.size W0 w' := by
  subst hn
  refine (choose_any ⟨10, 0, 0⟩ (xP false) [xA, xB] _ 2 _ (Rds.made W0 encP [xA, xB] 25 #[.string ⟨#[97]⟩, .int .i64 1, .bool false, .int .i64 4, .int .i64 0, .int .i64 0, .int .i64 0, .int .i64 0, .int .i64 0, .string ⟨#[120]⟩, .int .i64 0, .string ⟨#[98]⟩, .int .i64 2, .bool false, .int .i64 4, .int .i64 0, .int .i64 0, .int .i64 0, .int .i64 0, .int .i64 0, .string ⟨#[120]⟩, .int .i64 0] (0, 0) rfl) (by decide) (fun x hx => by simp at hx; rcases hx with rfl | rfl <;> first | exact wfA | exact wfB) (wfP false)).mono ?_
  rintro e w' ⟨K, hp, hs, h⟩
  have hb0 : Below W0.heap.size W0 (W0.alloc (.cells #[.string ⟨#[97]⟩, .int .i64 1, .bool false, .int .i64 4, .int .i64 0, .int .i64 0, .int .i64 0, .int .i64 0, .int .i64 0, .string ⟨#[120]⟩, .int .i64 0, .string ⟨#[98]⟩, .int .i64 2, .bool false, .int .i64 4, .int .i64 0, .int .i64 0, .int .i64 0, .int .i64 0, .int .i64 0, .string ⟨#[120]⟩, .int .i64 0] 25)) := (Below.refl _ _).alloc (Nat.le_refl _) _
  have hK : K = [] := sortV_eq (hp.trans (List.Perm.refl _)) (by intro x hx y hy h; simp at hx hy) hs (by decide)
  subst hK
  rcases h with ⟨hf, rfl, hb⟩ | ⟨hf, O, A, c, hpo, _, rfl, ho, hb⟩
  · exact ⟨none, 0, rfl, Own.nil_ _ _ _ _, below_rV hb0 hb⟩
  · exact absurd hf (by decide)
theorem aw_choose3 (W0 : World) {n : Nat} (hn : W0.heap.size = n) : Calls Try.prog 16 #[.agg #[.int .i64 10, .int .i64 0, .int .i64 0], .slice (some ⟨n, 0, none⟩) 1 1, .agg #[.string ⟨#[112]⟩, .int .i64 9, .bool false, .int .i64 5, .int .i64 0, .int .i64 0, .int .i64 0, .int .i64 0, .int .i64 0, .string ⟨#[120]⟩, .int .i64 0]] (W0.alloc (.cells #[.string ⟨#[97]⟩, .int .i64 1, .bool false, .int .i64 4, .int .i64 0, .int .i64 0, .int .i64 0, .int .i64 0, .int .i64 0, .string ⟨#[120]⟩, .int .i64 0] 25)) fun e w' => ∃ (A : Option Addr) (c : Nat), e = .returned (.tuple #[.slice A 0 c, .bool true]) ∧ Own w' W0.heap.size 9 encS (.slice A 0 c) [] ∧ Below W0.heap.size W0 w' := by
  subst hn
  refine (choose_any ⟨10, 0, 0⟩ (xP false) [xA] _ 1 _ (Rds.made W0 encP [xA] 25 #[.string ⟨#[97]⟩, .int .i64 1, .bool false, .int .i64 4, .int .i64 0, .int .i64 0, .int .i64 0, .int .i64 0, .int .i64 0, .string ⟨#[120]⟩, .int .i64 0] (0, 0) rfl) (by decide) (fun x hx => by simp at hx; subst hx; exact wfA) (wfP false)).mono ?_
  rintro e w' ⟨K, hp, hs, h⟩
  have hb0 : Below W0.heap.size W0 (W0.alloc (.cells #[.string ⟨#[97]⟩, .int .i64 1, .bool false, .int .i64 4, .int .i64 0, .int .i64 0, .int .i64 0, .int .i64 0, .int .i64 0, .string ⟨#[120]⟩, .int .i64 0] 25)) := (Below.refl _ _).alloc (Nat.le_refl _) _
  have hK : K = [] := sortV_eq (hp.trans (List.Perm.refl _)) (by intro x hx y hy h; simp at hx hy) hs (by decide)
  subst hK
  rcases h with ⟨hf, rfl, hb⟩ | ⟨hf, O, A, c, hpo, _, rfl, ho, hb⟩
  · exact absurd hf (by decide)
  · have hO : O = [] := by
      rw [show (chooseD ⟨10, 0, 0⟩ (stayD (xP false) [xA]) []).2 = [] from rfl] at hpo
      simpa using hpo
    subst hO
    exact ⟨A, c, rfl, ho.mono hb0.size, below_rV hb0 hb⟩
theorem aw_fits1 (W0 : World) {n : Nat} (hn : W0.heap.size = n) : Calls Try.prog 18 #[.agg #[.int .i64 10, .int .i64 0, .int .i64 0], .slice (some ⟨n, 0, none⟩) 2 2] (W0.alloc (.cells #[.string ⟨#[97]⟩, .int .i64 1, .bool false, .int .i64 4, .int .i64 0, .int .i64 0, .int .i64 0, .int .i64 0, .int .i64 0, .string ⟨#[120]⟩, .int .i64 0, .string ⟨#[112]⟩, .int .i64 9, .bool false, .int .i64 5, .int .i64 0, .int .i64 0, .int .i64 0, .int .i64 0, .int .i64 0, .string ⟨#[120]⟩, .int .i64 0] 25)) fun e w' => e = .returned (.bool true) ∧ Below W0.heap.size W0 w' := by
  subst hn
  have hb0 : Below W0.heap.size W0 (W0.alloc (.cells #[.string ⟨#[97]⟩, .int .i64 1, .bool false, .int .i64 4, .int .i64 0, .int .i64 0, .int .i64 0, .int .i64 0, .int .i64 0, .string ⟨#[120]⟩, .int .i64 0, .string ⟨#[112]⟩, .int .i64 9, .bool false, .int .i64 5, .int .i64 0, .int .i64 0, .int .i64 0, .int .i64 0, .int .i64 0, .string ⟨#[120]⟩, .int .i64 0] 25)) := (Below.refl _ _).alloc (Nat.le_refl _) _
  refine (fitsV (room := ⟨10, 0, 0⟩) (l := [xA, xP false]) (v := true) (by decide) (Rds.made W0 encP [xA, xP false] 25 #[.string ⟨#[97]⟩, .int .i64 1, .bool false, .int .i64 4, .int .i64 0, .int .i64 0, .int .i64 0, .int .i64 0, .int .i64 0, .string ⟨#[120]⟩, .int .i64 0, .string ⟨#[112]⟩, .int .i64 9, .bool false, .int .i64 5, .int .i64 0, .int .i64 0, .int .i64 0, .int .i64 0, .int .i64 0, .string ⟨#[120]⟩, .int .i64 0] (0, 0) rfl) (fun x hx => by simp at hx; rcases hx with rfl | rfl <;> first | exact wfA | exact wfB | exact wfP _) (by decide)).mono ?_
  rintro e w' ⟨rfl, hb⟩
  exact ⟨rfl, below_rV hb0 hb⟩
theorem aw_fits2 (W0 : World) {n : Nat} (hn : W0.heap.size = n) : Calls Try.prog 18 #[.agg #[.int .i64 10, .int .i64 0, .int .i64 0], .slice (some ⟨n, 0, none⟩) 3 3] (W0.alloc (.cells #[.string ⟨#[97]⟩, .int .i64 1, .bool false, .int .i64 4, .int .i64 0, .int .i64 0, .int .i64 0, .int .i64 0, .int .i64 0, .string ⟨#[120]⟩, .int .i64 0, .string ⟨#[98]⟩, .int .i64 2, .bool false, .int .i64 4, .int .i64 0, .int .i64 0, .int .i64 0, .int .i64 0, .int .i64 0, .string ⟨#[120]⟩, .int .i64 0, .string ⟨#[112]⟩, .int .i64 9, .bool false, .int .i64 5, .int .i64 0, .int .i64 0, .int .i64 0, .int .i64 0, .int .i64 0, .string ⟨#[120]⟩, .int .i64 0] 25)) fun e w' => e = .returned (.bool false) ∧ Below W0.heap.size W0 w' := by
  subst hn
  have hb0 : Below W0.heap.size W0 (W0.alloc (.cells #[.string ⟨#[97]⟩, .int .i64 1, .bool false, .int .i64 4, .int .i64 0, .int .i64 0, .int .i64 0, .int .i64 0, .int .i64 0, .string ⟨#[120]⟩, .int .i64 0, .string ⟨#[98]⟩, .int .i64 2, .bool false, .int .i64 4, .int .i64 0, .int .i64 0, .int .i64 0, .int .i64 0, .int .i64 0, .string ⟨#[120]⟩, .int .i64 0, .string ⟨#[112]⟩, .int .i64 9, .bool false, .int .i64 5, .int .i64 0, .int .i64 0, .int .i64 0, .int .i64 0, .int .i64 0, .string ⟨#[120]⟩, .int .i64 0] 25)) := (Below.refl _ _).alloc (Nat.le_refl _) _
  refine (fitsV (room := ⟨10, 0, 0⟩) (l := [xA, xB, xP false]) (v := false) (by decide) (Rds.made W0 encP [xA, xB, xP false] 25 #[.string ⟨#[97]⟩, .int .i64 1, .bool false, .int .i64 4, .int .i64 0, .int .i64 0, .int .i64 0, .int .i64 0, .int .i64 0, .string ⟨#[120]⟩, .int .i64 0, .string ⟨#[98]⟩, .int .i64 2, .bool false, .int .i64 4, .int .i64 0, .int .i64 0, .int .i64 0, .int .i64 0, .int .i64 0, .string ⟨#[120]⟩, .int .i64 0, .string ⟨#[112]⟩, .int .i64 9, .bool false, .int .i64 5, .int .i64 0, .int .i64 0, .int .i64 0, .int .i64 0, .int .i64 0, .string ⟨#[120]⟩, .int .i64 0] (0, 0) rfl) (fun x hx => by simp at hx; rcases hx with rfl | rfl | rfl <;> first | exact wfA | exact wfB | exact wfP _) (by decide)).mono ?_
  rintro e w' ⟨rfl, hb⟩
  exact ⟨rfl, below_rV hb0 hb⟩

theorem VQ.crit {w W : World} (h : VQ true w W) : VQ false w (W.setCell ⟨w.heap.size + 1 + 1, 2, none⟩ (.bool false)) :=
  ⟨h.pa.far (by show w.heap.size ≠ w.heap.size + 1 + 1; omega) _, h.pb.far (by show w.heap.size + 1 ≠ w.heap.size + 1 + 1; omega) _, h.pp.set_ 2 _, h.rm.far (by show w.heap.size + 1 + 1 + 1 ≠ w.heap.size + 1 + 1; omega) _, h.bel.setCell (by show w.heap.size ≤ w.heap.size + 1 + 1; omega) _⟩
set_option maxRecDepth 100000 in
set_option maxHeartbeats 16000000 in
theorem awake21_any (w : World) :
    Calls Try.prog 12 #[] w fun e w' => e = .returned (.bool true) ∧ Below w.heap.size w w' := by
  have HQ := Lib.hid (VQ.new true w)
  go_enter Try.func12, Try.ntmps12
  go_wp2_with fail
  refine (aw_choose1 _ (by simp)).mono ?_; rintro e v ⟨A1, c1, rfl, ho, hb⟩
  have HQ := Lib.hid (HQ.out.below hb)
  have HO := Lib.hid ho
  clear hb ho
  have ca := HQ.out.pa.cell
  have cb := HQ.out.pb.cell
  have cp := HQ.out.pp.cell
  have cr := HQ.out.rm.cell
  clear ca cb cr
  have fp := HQ.out.pp.frozen
  obtain ⟨v1, hv1⟩ : ∃ v1, v.setCell ⟨w.heap.size + 1 + 1, 2, none⟩ (.bool false) = v1 := ⟨_, rfl⟩
  have HO := Lib.hid (show Own v1 _ 9 encS (.slice A1 1 c1) [⟨#[97]⟩] by rw [← hv1]; exact HO.out.setFar HQ.out.pp (by decide) 2 _)
  have HQ := Lib.hid (show VQ false w v1 by rw [← hv1]; exact HQ.out.crit)
  have ca := HQ.out.pa.cell
  have cb := HQ.out.pb.cell
  have cp1 := (HQ.out.pp.alloc (.cells #[.string ⟨#[97]⟩, .int .i64 1, .bool false, .int .i64 4, .int .i64 0, .int .i64 0, .int .i64 0, .int .i64 0, .int .i64 0, .string ⟨#[120]⟩, .int .i64 0, .string ⟨#[98]⟩, .int .i64 2, .bool false, .int .i64 4, .int .i64 0, .int .i64 0, .int .i64 0, .int .i64 0, .int .i64 0, .string ⟨#[120]⟩, .int .i64 0] 25)).cell
  have cr := HQ.out.rm.cell
  go_wp2_with fail
  refine (aw_choose2 _ rfl).mono ?_; rintro e v2 ⟨A2, c2, rfl, _, hb⟩
  have HO := Lib.hid (HO.out.below hb (Nat.le_refl _))
  have HQ := Lib.hid (HQ.out.below hb)
  clear hb ca cb cp cp1 cr fp hv1
  have ca := HQ.out.pa.cell
  have cb := HQ.out.pb.cell
  have cp := (HQ.out.pp.alloc (.cells #[.string ⟨#[97]⟩, .int .i64 1, .bool false, .int .i64 4, .int .i64 0, .int .i64 0, .int .i64 0, .int .i64 0, .int .i64 0, .string ⟨#[120]⟩, .int .i64 0] 25)).cell
  have cr := HQ.out.rm.cell
  go_wp2_with fail
  refine (aw_choose3 _ rfl).mono ?_; rintro e v3 ⟨A3, c3, rfl, _, hb⟩
  have HO := Lib.hid (HO.out.below hb (Nat.le_refl _)).toRds
  have HQ := Lib.hid (HQ.out.below hb)
  clear hb ca cb cp cr
  obtain ⟨b0, o0, rfl, hb0, d0⟩ := HO.out.str (i := 0) (by decide)
  simp only [Nat.add_zero, List.getElem_cons_zero] at d0
  have ca := HQ.out.pa.cell
  have cp := HQ.out.pp.cell
  have cr := HQ.out.rm.cell
  go_wp2_with fail
  refine (aw_fits1 _ rfl).mono ?_; rintro e v4 ⟨rfl, hb⟩
  have HQ := Lib.hid (HQ.out.below hb)
  clear hb ca cp cr d0
  have ca := HQ.out.pa.cell
  have cb := HQ.out.pb.cell
  have cp := HQ.out.pp.cell
  have cr := HQ.out.rm.cell
  go_wp2_with fail
  refine (aw_fits2 _ rfl).mono ?_; rintro e v5 ⟨rfl, hb⟩
  have HQ := Lib.hid (HQ.out.below hb)
  clear hb ca cb cp cr
  have ca := HQ.out.pa.cell
  have cp := HQ.out.pp.cell
  go_wp2_with fail
  refine (vmayV (p := xP false) (v := xA) (b := false) rfl v5).mono ?_; rintro e v6 ⟨rfl, hb⟩
  have HQ := Lib.hid (HQ.out.below hb)
  clear hb ca cp
  go_wp2_with fail
  go_ret
  exact ⟨rfl, HQ.out.bel⟩
end Go.Proofs.Ytabbkembpghfdaa
