/- Several texts in one: The reference's Cut at whatever bytes: as the program's. -/
import Derived.Test.YtakgblgbfbpmoaaDoorMV
import Derived.Test.YtakgblgbfbpmoaaDoorMW
namespace Go.Proofs.YtakgblgbfbpmoaaDoor
open Go.RowKit

set_option maxRecDepth 100000 in
set_option maxHeartbeats 4000000 in
theorem refCut_no2 (A : Option Addr) (c : Nat) (x y : UInt8) (l m : List UInt8) (w : World) (hr : Rds w encB A (x :: l)) (hbd : l.length ≤ 140737488355328) (hx : x.toNat ≤ l.length) (hl : l.drop x.toNat = y :: m) (hs : m.length < y.toNat + 65) :
    Calls Tryd.prog 38 #[.slice A (x :: l).length c] w fun e w' => e = .returned (.tuple #[.agg zeroPod, .int .i64 0]) ∧ Below w.heap.size w w' := by
  obtain ⟨b, off, rfl, hb, hcell⟩ := hr (by simp)
  have hlm : l.length = x.toNat + 1 + m.length := by have := congrArg List.length hl; rw [List.length_drop, List.length_cons] at this; omega
  obtain ⟨i, hi⟩ : ∃ i : Nat, i = 1 + x.toNat := ⟨_, rfl⟩
  obtain ⟨j, hj⟩ : ∃ j : Nat, j = i + 1 + y.toNat := ⟨_, rfl⟩
  have hB : Below w.heap.size w (w.alloc (.cells zeroPod 44)) := (Below.refl _ _).alloc (Nat.le_refl _) _
  have dri0 : (x :: l)[i]? = some y := by
    have : (l.drop x.toNat)[0]? = some y := by rw [hl]; rfl
    rw [hi, Nat.add_comm, List.getElem?_cons_succ]
    rwa [List.getElem?_drop, Nat.add_zero] at this
  have k0 := ((bcell hB).1 b off hb).trans (show w.cell? ⟨b, off, none⟩ = some (.int .u8 x.toNat) by have := hcell 0 (.int .u8 x.toNat) (by rw [encB_all]; rfl); simpa using this)
  have k1 := ((bcell hB).1 b (off + i) hb).trans (hcell i (.int .u8 y.toNat) (by rw [encB_all, List.getElem?_map, dri0]; rfl))
  obtain ⟨n, hn⟩ : ∃ n : Nat, n = (x :: l).length := ⟨_, rfl⟩
  rw [← hn]
  have hn2 : n = l.length + 1 := hn
  have e1 : (1 : Int) + (x.toNat : Int) = (i : Int) := by omega
  have hx255 : (i : Int) ≤ 256 := by have := x.toNat_lt; omega
  have hy255 : (y.toNat : Int) ≤ 255 := by have := y.toNat_lt; omega
  have e2 : (i : Int) + 1 + (y.toNat : Int) = (j : Int) := by omega
  have d1 : decide ((n : Int) < 1) = false := decide_eq_false (by omega)
  have d2 : decide ((n : Int) < (x.toNat : Int) + 2) = false := decide_eq_false (by omega)
  have d3 : decide ((n : Int) < (j : Int) + 65) = true := decide_eq_true (by omega)
  have hin : i < n := by omega
  have hin2 : (i : Int) < (n : Int) := by omega
  have hn0 : 0 < n := by omega
  have hn1 : (0 : Int) < (n : Int) := by omega
  have hnm : (n : Int) ≤ 140737488355400 := by omega
  have hjm : (j : Int) ≤ 600 := by omega
  have hj0 : (0 : Int) ≤ (j : Int) := by omega
  have hR := Blk.new w 44 zeroPod
  have HH := Lib.hid (And.intro hR hB)
  clear hR hB hr hcell hlm hi hj hn2 hn hl dri0 hx hs hbd
  go_enter Tryd.func38, Tryd.ntmps38
  go_wp2_with (refine wl_store_blk rfl 44 (.tmp 2) (.tmp 41) rfl w.heap.size 44 zeroPod zeroPod rfl rfl HH.out.1 rfl infoPod zeroPod_one ?_; intro w5 hR5 hg5 hs5)
  have hl5 := hR5.cell
  exact bodyPost_ret (v := .tuple #[.agg zeroPod, .int .i64 0]) (by simp [results, Tryd.results38, go_sem, hl5]) rfl ⟨rfl, HH.out.2.grown hg5 HH.out.2.size (by intro k hk; cases hk; exact Nat.le_refl _)⟩
/-- what the document's Cut answers -/
def RefCutP (l : List UInt8) (w : World) (e : Ending) (w' : World) : Prop :=
  (∃ p rest, cutOf l = some (p, rest) ∧ e = .returned (.tuple #[.agg p.cells, .int .i64 ((l.length - rest.length : Nat) : Int)]) ∧ Below w.heap.size w w') ∨
  (cutOf l = none ∧ e = .returned (.tuple #[.agg zeroPod, .int .i64 0]) ∧ Below w.heap.size w w')
theorem refCut_any (A : Option Addr) (c : Nat) (l : List UInt8) (w : World) (hr : Rds w encB A l) (hc : l.length ≤ c) (hm : c ≤ 9223372036854775807) (hbd : l.length ≤ 140737488355328) :
    Calls Tryd.prog 38 #[.slice A l.length c] w (RefCutP l w) := by
  match l, hr, hc, hbd with
  | [], _, _, _ => exact (refCut_nil A c w).mono fun e w' h => Or.inr ⟨rfl, h⟩
  | x :: l0, hr, hc, hbd =>
    by_cases h1 : l0.length ≤ x.toNat
    · refine (refCut_no1 A c x l0 w hr h1 (by simp only [List.length_cons] at hbd; omega)).mono fun e w' h => Or.inr ⟨?_, h⟩
      unfold cutOf textOf
      by_cases h2 : x.toNat ≤ l0.length
      · simp only [if_pos h2]
        rw [List.drop_of_length_le h1]
      · simp only [if_neg h2]
    · have hx : x.toNat ≤ l0.length := by omega
      have hbd2 : l0.length ≤ 140737488355328 := by simp only [List.length_cons] at hbd; omega
      obtain ⟨y, m, hl⟩ : ∃ y m, l0.drop x.toNat = y :: m := by
        cases h : l0.drop x.toNat with
        | nil => have := congrArg List.length h; rw [List.length_drop] at this; simp at this; omega
        | cons y m => exact ⟨y, m, rfl⟩
      have hlm : l0.length = x.toNat + 1 + m.length := by have := congrArg List.length hl; rw [List.length_drop, List.length_cons] at this; omega
      have ht : textOf (x :: l0) = some (l0.take x.toNat, y :: m) := by
        show (if x.toNat ≤ l0.length then some (l0.take x.toNat, l0.drop x.toNat) else none) = _
        rw [if_pos hx, hl]
      by_cases h2 : m.length < y.toNat + 65
      · refine (refCut_no2 A c x y l0 m w hr hbd2 hx hl h2).mono fun e w' h => Or.inr ⟨?_, h⟩
        unfold cutOf
        rw [ht]
        simp only
        by_cases h3 : y.toNat ≤ m.length
        · rw [show textOf (y :: m) = some (m.take y.toNat, m.drop y.toNat) from (by show (if y.toNat ≤ m.length then some (m.take y.toNat, m.drop y.toNat) else none) = _; rw [if_pos h3])]
          simp only
          rw [if_neg (by rw [List.length_drop]; omega)]
        · rw [show textOf (y :: m) = none from (by show (if y.toNat ≤ m.length then some (m.take y.toNat, m.drop y.toNat) else none) = _; rw [if_neg h3])]
      · have hlong : y.toNat + 65 ≤ m.length := by omega
        have ht2 : textOf (y :: m) = some (m.take y.toNat, m.drop y.toNat) := by
          show (if y.toNat ≤ m.length then some (m.take y.toNat, m.drop y.toNat) else none) = _
          rw [if_pos (by omega)]
        have h64 : 64 < (m.drop y.toNat).length := by rw [List.length_drop]; omega
        obtain ⟨e1, e2⟩ := refOk_eq (str (l0.take x.toNat)) (str (m.take y.toNat)) (m.drop y.toNat) h64
        refine (refCut_long A c x y l0 m w hr hc hm hbd2 hx hl hlong _ rfl _ _ rfl rfl _ rfl).mono fun e w' h => ?_
        rcases h with ⟨hk, he, hb⟩ | ⟨hk, he, hb⟩
        · rw [e1] at hk
          refine Or.inl ⟨_, _, by unfold cutOf; rw [ht]; simp only [ht2, if_pos h64, hk]; rfl, ?_, hb⟩
          rw [he, e2 hk]
          have hlen : ((m.drop y.toNat).drop 65).length = m.length - y.toNat - 65 := by rw [List.length_drop, List.length_drop]
          have hz : ((x.toNat + 2 + y.toNat : Nat) : Int) + 65 = (((x :: l0).length - ((m.drop y.toNat).drop 65).length : Nat) : Int) := by
            rw [hlen, List.length_cons]
            omega
          rw [hz]
        · rw [e1] at hk
          exact Or.inr ⟨by unfold cutOf; rw [ht]; simp only [ht2, if_pos h64, hk]; rfl, he, hb⟩
end Go.Proofs.YtakgblgbfbpmoaaDoor
