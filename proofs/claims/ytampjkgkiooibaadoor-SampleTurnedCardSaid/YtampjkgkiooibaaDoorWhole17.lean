/- bilgeref17.Whole: what is read of three numbers. -/
import Derived.Test.YtampjkgkiooibaaDoorRead3
import Derived.Test.YtampjkgkiooibaaDoorOwnSet
namespace Go.Proofs.YtampjkgkiooibaaDoor
open Go.RowKit

abbrev w3 (x y z : Int) : Nat → Array Value
  | 0 => #[.int .i64 0, .int .i64 0, .int .i64 0]
  | 1 => #[.int .i64 x, .int .i64 0, .int .i64 0]
  | 2 => #[.int .i64 x, .int .i64 y, .int .i64 0]
  | _ => #[.int .i64 x, .int .i64 y, .int .i64 z]
theorem w3_one (x y z : Int) : (w3 x y z 3).all (·.oneCell') = true := by simp [w3, Value.oneCell']
theorem sz3n : (Tryd.prog.info? 29).map (·.size) = some 3 := by kernel_rfl
set_option maxHeartbeats 4000000 in
theorem wholeV_any {f0 f1 f2 : Nat} {x y z : Int} (h0 : f0 < 18446744073709551616) (h1 : f1 < 18446744073709551616) (h2 : f2 < 18446744073709551616) (hx : readN f0 = x) (hy : readN f1 = y) (hz : readN f2 = z) (w : World) :
    Calls Tryd.prog 24 #[.agg #[.float .f64 f0, .float .f64 f1, .float .f64 f2]] w fun e w' => e = .returned (.agg #[.int .i64 x, .int .i64 y, .int .i64 z]) ∧ Below w.heap.size w w' := by
  have H0 := Lib.hid (fun W => readV_any h0 hx rfl W)
  have H1 := Lib.hid (fun W => readV_any h1 hy rfl W)
  have H2 := Lib.hid (fun W => readV_any h2 hz rfl W)
  clear h0 h1 h2 hx hy hz
  obtain ⟨w1, e1⟩ : ∃ w1, w1 = w.alloc (.cells #[.float .f64 f0, .float .f64 f1, .float .f64 f2] 23) := ⟨_, rfl⟩
  obtain ⟨w2, e2⟩ : ∃ w2, w2 = w1.alloc (.cells #[.int .i64 0, .int .i64 0, .int .i64 0] 29) := ⟨_, rfl⟩
  have z1 : w1.heap.size = w.heap.size + 1 := by rw [e1]; simp
  have z2 : w2.heap.size = w.heap.size + 1 + 1 := by rw [e2, ← z1]; simp
  have HB0 : Hid (Blk (((w.alloc (.cells #[.float .f64 f0, .float .f64 f1, .float .f64 f2] 23)).alloc (.cells #[.int .i64 0, .int .i64 0, .int .i64 0] 29)).alloc (.cells #[.int .i64 0, .int .i64 0, .int .i64 0] 29)) w.heap.size 23 #[.float .f64 f0, .float .f64 f1, .float .f64 f2] ∧ Blk (((w.alloc (.cells #[.float .f64 f0, .float .f64 f1, .float .f64 f2] 23)).alloc (.cells #[.int .i64 0, .int .i64 0, .int .i64 0] 29)).alloc (.cells #[.int .i64 0, .int .i64 0, .int .i64 0] 29)) (w.heap.size + 1) 29 (w3 x y z 0) ∧ Blk (((w.alloc (.cells #[.float .f64 f0, .float .f64 f1, .float .f64 f2] 23)).alloc (.cells #[.int .i64 0, .int .i64 0, .int .i64 0] 29)).alloc (.cells #[.int .i64 0, .int .i64 0, .int .i64 0] 29)) (w.heap.size + 1 + 1) 29 (w3 x y z 0) ∧ Below w.heap.size w (((w.alloc (.cells #[.float .f64 f0, .float .f64 f1, .float .f64 f2] 23)).alloc (.cells #[.int .i64 0, .int .i64 0, .int .i64 0] 29)).alloc (.cells #[.int .i64 0, .int .i64 0, .int .i64 0] 29))) := by
    refine ⟨((Blk.new _ _ _).alloc _).alloc _, ?_, ?_, ?_⟩
    · rw [← e1, ← e2]; refine Blk.alloc ?_ _; rw [e2, ← z1]; exact Blk.new _ _ _
    · rw [← e1, ← e2, ← z2]; exact Blk.new _ _ _
    · exact (((Below.refl _ _).alloc (Nat.le_refl _) _).alloc (by simp) _).alloc (by simp; omega) _
  clear e2 z1 z2 e1 w2 w1
  go_enter Tryd.func24, Tryd.ntmps24
  go_wp2_with fail
  go_loopw [4] (fun i wr => (i = .int .i64 0 ∧ Blk wr w.heap.size 23 #[.float .f64 f0, .float .f64 f1, .float .f64 f2] ∧ Blk wr (w.heap.size + 1) 29 (w3 x y z 0) ∧ Blk wr (w.heap.size + 1 + 1) 29 (w3 x y z 0) ∧ Below w.heap.size w wr) ∨ (i = .int .i64 1 ∧ Blk wr w.heap.size 23 #[.float .f64 f0, .float .f64 f1, .float .f64 f2] ∧ Blk wr (w.heap.size + 1) 29 (w3 x y z 0) ∧ Blk wr (w.heap.size + 1 + 1) 29 (w3 x y z 1) ∧ Below w.heap.size w wr) ∨ (i = .int .i64 2 ∧ Blk wr w.heap.size 23 #[.float .f64 f0, .float .f64 f1, .float .f64 f2] ∧ Blk wr (w.heap.size + 1) 29 (w3 x y z 0) ∧ Blk wr (w.heap.size + 1 + 1) 29 (w3 x y z 2) ∧ Below w.heap.size w wr) ∨ (i = .int .i64 3 ∧ Blk wr w.heap.size 23 #[.float .f64 f0, .float .f64 f1, .float .f64 f2] ∧ Blk wr (w.heap.size + 1) 29 (w3 x y z 0) ∧ Blk wr (w.heap.size + 1 + 1) 29 (w3 x y z 3) ∧ Below w.heap.size w wr)) (fun i _ => 3 - (intOf i).toNat)
  case atStart => exact .inl ⟨rfl, HB0.out.1, HB0.out.2.1, HB0.out.2.2.1, HB0.out.2.2.2⟩
  case round =>
    clear HB0
    rcases hrel with hrel | hrel | hrel | hrel
    · obtain ⟨rfl, hF, hR, hS, hB⟩ := hrel
      have cf : wr.cell? ⟨w.heap.size, 0, none⟩ = some (.float .f64 f0) := hF.cell 0
      have cs : wr.cell? ⟨w.heap.size + 1 + 1, 0, none⟩ = some (.int .i64 0) := hS.cell 0
      have fs : wr.frozen? ⟨w.heap.size + 1 + 1, 0, none⟩ = false := hS.frozen 0
      have hF1 := hF.far (p := ⟨w.heap.size + 1 + 1, 0, none⟩) (by simp; omega) (.int .i64 x)
      have hR1 := hR.far (p := ⟨w.heap.size + 1 + 1, 0, none⟩) (by simp) (.int .i64 x)
      have hS1 : Blk (wr.setCell ⟨w.heap.size + 1 + 1, 0, none⟩ (.int .i64 x)) (w.heap.size + 1 + 1) 29 (w3 x y z 1) := hS.set_ 0 _
      have hB1 := hB.setCell (p := ⟨w.heap.size + 1 + 1, 0, none⟩) (by simp; omega) (.int .i64 x)
      have HH := Lib.hid (And.intro hF1 (And.intro hR1 (And.intro hS1 hB1)))
      clear hF hR hS hB hF1 hR1 hS1 hB1
      go_wp2_with fail
      refine (H0.out _).mono ?_; rintro e w6 ⟨rfl, rfl⟩
      go_wp2_with fail
      go_roundw
      case rel => exact .inr (.inl ⟨rfl, HH.out.1, HH.out.2.1, HH.out.2.2.1, HH.out.2.2.2⟩)
      case measure => simp [intOf]
    · obtain ⟨rfl, hF, hR, hS, hB⟩ := hrel
      have cf : wr.cell? ⟨w.heap.size, 1, none⟩ = some (.float .f64 f1) := hF.cell 1
      have cs : wr.cell? ⟨w.heap.size + 1 + 1, 1, none⟩ = some (.int .i64 0) := hS.cell 1
      have fs : wr.frozen? ⟨w.heap.size + 1 + 1, 1, none⟩ = false := hS.frozen 1
      have hF1 := hF.far (p := ⟨w.heap.size + 1 + 1, 1, none⟩) (by simp; omega) (.int .i64 y)
      have hR1 := hR.far (p := ⟨w.heap.size + 1 + 1, 1, none⟩) (by simp) (.int .i64 y)
      have hS1 : Blk (wr.setCell ⟨w.heap.size + 1 + 1, 1, none⟩ (.int .i64 y)) (w.heap.size + 1 + 1) 29 (w3 x y z 2) := hS.set_ 1 _
      have hB1 := hB.setCell (p := ⟨w.heap.size + 1 + 1, 1, none⟩) (by simp; omega) (.int .i64 y)
      have HH := Lib.hid (And.intro hF1 (And.intro hR1 (And.intro hS1 hB1)))
      clear hF hR hS hB hF1 hR1 hS1 hB1
      go_wp2_with fail
      refine (H1.out _).mono ?_; rintro e w6 ⟨rfl, rfl⟩
      go_wp2_with fail
      go_roundw
      case rel => exact .inr (.inr (.inl ⟨rfl, HH.out.1, HH.out.2.1, HH.out.2.2.1, HH.out.2.2.2⟩))
      case measure => simp [intOf]
    · obtain ⟨rfl, hF, hR, hS, hB⟩ := hrel
      have cf : wr.cell? ⟨w.heap.size, 2, none⟩ = some (.float .f64 f2) := hF.cell 2
      have cs : wr.cell? ⟨w.heap.size + 1 + 1, 2, none⟩ = some (.int .i64 0) := hS.cell 2
      have fs : wr.frozen? ⟨w.heap.size + 1 + 1, 2, none⟩ = false := hS.frozen 2
      have hF1 := hF.far (p := ⟨w.heap.size + 1 + 1, 2, none⟩) (by simp; omega) (.int .i64 z)
      have hR1 := hR.far (p := ⟨w.heap.size + 1 + 1, 2, none⟩) (by simp) (.int .i64 z)
      have hS1 : Blk (wr.setCell ⟨w.heap.size + 1 + 1, 2, none⟩ (.int .i64 z)) (w.heap.size + 1 + 1) 29 (w3 x y z 3) := hS.set_ 2 _
      have hB1 := hB.setCell (p := ⟨w.heap.size + 1 + 1, 2, none⟩) (by simp; omega) (.int .i64 z)
      have HH := Lib.hid (And.intro hF1 (And.intro hR1 (And.intro hS1 hB1)))
      clear hF hR hS hB hF1 hR1 hS1 hB1
      go_wp2_with fail
      refine (H2.out _).mono ?_; rintro e w6 ⟨rfl, rfl⟩
      go_wp2_with fail
      go_roundw
      case rel => exact .inr (.inr (.inr (⟨rfl, HH.out.1, HH.out.2.1, HH.out.2.2.1, HH.out.2.2.2⟩)))
      case measure => simp [intOf]
    · obtain ⟨rfl, hF, hR, hS, hB⟩ := hrel
      have c0 : wr.cell? ⟨w.heap.size + 1 + 1, 0, none⟩ = some (.int .i64 x) := hS.cell 0
      have c1 : wr.cell? ⟨w.heap.size + 1 + 1, 1, none⟩ = some (.int .i64 y) := hS.cell 1
      have c2 : wr.cell? ⟨w.heap.size + 1 + 1, 2, none⟩ = some (.int .i64 z) := hS.cell 2
      have H := Lib.hid (And.intro hR hB)
      clear hR hB hS hF
      go_wp2_with (refine wl_store_blk rfl 29 (.tmp 2) (.tmp 21) rfl (w.heap.size + 1) 29 (w3 x y z 0) (w3 x y z 3) rfl rfl H.out.1 rfl sz3n (w3_one _ _ _) ?_; intro w5 hR5 hg5 hs5)
      have hl5 : ∀ i, w5.cell? ⟨w.heap.size + 1, i, none⟩ = (#[.int .i64 x, .int .i64 y, .int .i64 z] : Array Value)[i]? := hR5.cell
      exact bodyPost_ret (v := .agg #[.int .i64 x, .int .i64 y, .int .i64 z]) (by simp [results, Tryd.results24, go_sem, hl5]) rfl ⟨rfl, H.out.2.grown hg5 H.out.2.size (by intro k hk; cases hk; omega)⟩
end Go.Proofs.YtampjkgkiooibaaDoor
