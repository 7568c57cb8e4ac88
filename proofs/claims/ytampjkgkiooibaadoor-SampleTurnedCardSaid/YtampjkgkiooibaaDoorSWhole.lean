/- sample.whole: three numbers read. -/
import Derived.Test.YtampjkgkiooibaaDoorEdge
import Derived.Test.YtampjkgkiooibaaDoorWhole17
namespace Go.Proofs.YtampjkgkiooibaaDoor
open Go.RowKit

def wholeX (x y z : Int) : Bool → Array Value
  | true => #[.int .i64 x, .int .i64 y, .int .i64 z]
  | false => #[.int .i64 0, .int .i64 0, .int .i64 0]
set_option maxRecDepth 100000 in
set_option maxHeartbeats 4000000 in
theorem sampleWhole_any {f0 f1 f2 : Nat} {x y z : Int} {k0 k1 k2 : Bool} (h0 : f0 < 18446744073709551616) (h1 : f1 < 18446744073709551616) (h2 : f2 < 18446744073709551616) (hx : readN f0 = x) (hy : readN f1 = y) (hz : readN f2 = z) (hk0 : okN (kindN f0) = k0) (hk1 : okN (kindN f1) = k1) (hk2 : okN (kindN f2) = k2) (w : World) :
    Calls Tryd.prog 28 #[.agg #[.float .f64 f0, .float .f64 f1, .float .f64 f2]] w fun e w' => e = .returned (.tuple #[.agg (wholeX x y z (k0 && (k1 && k2))), .bool (k0 && (k1 && k2))]) ∧ Below w.heap.size w w' := by
  have H0 := Lib.hid (fun W => edgeRead_any h0 hx hk0 W)
  have H1 := Lib.hid (fun W => edgeRead_any h1 hy hk1 W)
  have H2 := Lib.hid (fun W => edgeRead_any h2 hz hk2 W)
  clear h0 h1 h2 hx hy hz hk0 hk1 hk2
  obtain ⟨w1, e1⟩ : ∃ w1, w1 = w.alloc (.cells #[.float .f64 f0, .float .f64 f1, .float .f64 f2] 23) := ⟨_, rfl⟩
  obtain ⟨w2, e2⟩ : ∃ w2, w2 = w1.alloc (.cells #[.int .i64 0, .int .i64 0, .int .i64 0] 29) := ⟨_, rfl⟩
  have z1 : w1.heap.size = w.heap.size + 1 := by rw [e1]; simp
  have z2 : w2.heap.size = w.heap.size + 1 + 1 := by rw [e2, ← z1]; simp
  have HB0 : Hid (Blk (((w.alloc (.cells #[.float .f64 f0, .float .f64 f1, .float .f64 f2] 23)).alloc (.cells #[.int .i64 0, .int .i64 0, .int .i64 0] 29)).alloc (.cells #[.int .i64 0, .int .i64 0, .int .i64 0] 29)) (w.heap.size + 1) 29 (w3 x y z 0) ∧ Blk (((w.alloc (.cells #[.float .f64 f0, .float .f64 f1, .float .f64 f2] 23)).alloc (.cells #[.int .i64 0, .int .i64 0, .int .i64 0] 29)).alloc (.cells #[.int .i64 0, .int .i64 0, .int .i64 0] 29)) (w.heap.size + 1 + 1) 29 (w3 x y z 0) ∧ Below w.heap.size w (((w.alloc (.cells #[.float .f64 f0, .float .f64 f1, .float .f64 f2] 23)).alloc (.cells #[.int .i64 0, .int .i64 0, .int .i64 0] 29)).alloc (.cells #[.int .i64 0, .int .i64 0, .int .i64 0] 29))) := by
    refine ⟨?_, ?_, ?_⟩
    · rw [← e1, ← e2]; refine Blk.alloc ?_ _; rw [e2, ← z1]; exact Blk.new _ _ _
    · rw [← e1, ← e2, ← z2]; exact Blk.new _ _ _
    · exact (((Below.refl _ _).alloc (Nat.le_refl _) _).alloc (by simp) _).alloc (by simp; omega) _
  clear e2 z1 z2 e1 w2 w1
  go_enter Tryd.func28, Tryd.ntmps28
  go_wp2_with fail
  go_loopw [10, 3] (fun i ok wr => (i = .int .i64 0 ∧ ok = .bool false ∧ Blk wr (w.heap.size + 1) 29 (w3 x y z 0) ∧ Blk wr (w.heap.size + 1 + 1) 29 (w3 x y z 0) ∧ Below w.heap.size w wr) ∨ (i = .int .i64 1 ∧ ok = .bool false ∧ k0 = true ∧ Blk wr (w.heap.size + 1) 29 (w3 x y z 0) ∧ Blk wr (w.heap.size + 1 + 1) 29 (w3 x y z 1) ∧ Below w.heap.size w wr) ∨ (i = .int .i64 2 ∧ ok = .bool false ∧ k0 = true ∧ k1 = true ∧ Blk wr (w.heap.size + 1) 29 (w3 x y z 0) ∧ Blk wr (w.heap.size + 1 + 1) 29 (w3 x y z 2) ∧ Below w.heap.size w wr) ∨ (i = .int .i64 3 ∧ ok = .bool false ∧ k0 = true ∧ k1 = true ∧ k2 = true ∧ Blk wr (w.heap.size + 1) 29 (w3 x y z 0) ∧ Blk wr (w.heap.size + 1 + 1) 29 (w3 x y z 3) ∧ Below w.heap.size w wr)) (fun i _ _ => 3 - (intOf i).toNat)
  case atStart => exact .inl ⟨rfl, rfl, HB0.out.1, HB0.out.2.1, HB0.out.2.2⟩
  case round =>
    clear HB0
    rcases hrel with hrel | hrel | hrel | hrel
    · obtain ⟨rfl, rfl, hR, hS, hB⟩ := hrel
      have cs : wr.cell? ⟨w.heap.size + 1 + 1, 0, none⟩ = some (.int .i64 0) := hS.cell 0
      have fs : wr.frozen? ⟨w.heap.size + 1 + 1, 0, none⟩ = false := hS.frozen 0
      have hR1 := hR.far (p := ⟨w.heap.size + 1 + 1, 0, none⟩) (by simp) (.int .i64 x)
      have hS1 : Blk (wr.setCell ⟨w.heap.size + 1 + 1, 0, none⟩ (.int .i64 x)) (w.heap.size + 1 + 1) 29 (w3 x y z 1) := hS.set_ 0 _
      have hB1 := hB.setCell (p := ⟨w.heap.size + 1 + 1, 0, none⟩) (by simp; omega) (.int .i64 x)
      have ei : Sem.run Tryd.prog (Instr.index 23 (.agg #[.float .f64 f0, .float .f64 f1, .float .f64 f2]) (.int .i64 0)) wr = .ok (.float .f64 f0) wr := by kernel_rfl
      have H := Lib.hid (And.intro hR hB)
      have HH := Lib.hid (And.intro hR1 (And.intro hS1 hB1))
      clear hR hS hB hR1 hS1 hB1
      go_wp2_with fail
      refine (H0.out _).mono ?_; rintro e w6 ⟨rfl, rfl⟩
      cases k0
      · clear HH cs fs
        go_wp2_with (refine wl_store_blk rfl 29 (.tmp 2) (.tmp 21) rfl (w.heap.size + 1) 29 (w3 x y z 0) #[.int .i64 0, .int .i64 0, .int .i64 0] rfl rfl H.out.1 rfl sz3n (w3_one 0 0 0) ?_; intro w5 hR5 hg5 hs5)
        have hl5 : ∀ i, w5.cell? ⟨w.heap.size + 1, i, none⟩ = (#[.int .i64 0, .int .i64 0, .int .i64 0] : Array Value)[i]? := hR5.cell
        exact bodyPost_ret (v := .tuple #[.agg #[.int .i64 0, .int .i64 0, .int .i64 0], .bool false]) (by simp [results, Tryd.results28, go_sem, hl5]) rfl ⟨by simp [wholeX], H.out.2.grown hg5 H.out.2.size (by intro k hk; cases hk; omega)⟩
      · go_wp2_with fail
        go_roundw
        case rel => exact .inr (.inl ⟨rfl, rfl, (by simp), HH.out.1, HH.out.2.1, HH.out.2.2⟩)
        case measure => simp [intOf]
    · obtain ⟨rfl, rfl, rfl, hR, hS, hB⟩ := hrel
      have cs : wr.cell? ⟨w.heap.size + 1 + 1, 1, none⟩ = some (.int .i64 0) := hS.cell 1
      have fs : wr.frozen? ⟨w.heap.size + 1 + 1, 1, none⟩ = false := hS.frozen 1
      have hR1 := hR.far (p := ⟨w.heap.size + 1 + 1, 1, none⟩) (by simp) (.int .i64 y)
      have hS1 : Blk (wr.setCell ⟨w.heap.size + 1 + 1, 1, none⟩ (.int .i64 y)) (w.heap.size + 1 + 1) 29 (w3 x y z 2) := hS.set_ 1 _
      have hB1 := hB.setCell (p := ⟨w.heap.size + 1 + 1, 1, none⟩) (by simp; omega) (.int .i64 y)
      have ei : Sem.run Tryd.prog (Instr.index 23 (.agg #[.float .f64 f0, .float .f64 f1, .float .f64 f2]) (.int .i64 1)) wr = .ok (.float .f64 f1) wr := by kernel_rfl
      have H := Lib.hid (And.intro hR hB)
      have HH := Lib.hid (And.intro hR1 (And.intro hS1 hB1))
      clear hR hS hB hR1 hS1 hB1
      go_wp2_with fail
      refine (H1.out _).mono ?_; rintro e w6 ⟨rfl, rfl⟩
      cases k1
      · clear HH cs fs
        go_wp2_with (refine wl_store_blk rfl 29 (.tmp 2) (.tmp 21) rfl (w.heap.size + 1) 29 (w3 x y z 0) #[.int .i64 0, .int .i64 0, .int .i64 0] rfl rfl H.out.1 rfl sz3n (w3_one 0 0 0) ?_; intro w5 hR5 hg5 hs5)
        have hl5 : ∀ i, w5.cell? ⟨w.heap.size + 1, i, none⟩ = (#[.int .i64 0, .int .i64 0, .int .i64 0] : Array Value)[i]? := hR5.cell
        exact bodyPost_ret (v := .tuple #[.agg #[.int .i64 0, .int .i64 0, .int .i64 0], .bool false]) (by simp [results, Tryd.results28, go_sem, hl5]) rfl ⟨by simp [wholeX], H.out.2.grown hg5 H.out.2.size (by intro k hk; cases hk; omega)⟩
      · go_wp2_with fail
        go_roundw
        case rel => exact .inr (.inr (.inl ⟨rfl, rfl, (by simp), (by simp), HH.out.1, HH.out.2.1, HH.out.2.2⟩))
        case measure => simp [intOf]
    · obtain ⟨rfl, rfl, rfl, rfl, hR, hS, hB⟩ := hrel
      have cs : wr.cell? ⟨w.heap.size + 1 + 1, 2, none⟩ = some (.int .i64 0) := hS.cell 2
      have fs : wr.frozen? ⟨w.heap.size + 1 + 1, 2, none⟩ = false := hS.frozen 2
      have hR1 := hR.far (p := ⟨w.heap.size + 1 + 1, 2, none⟩) (by simp) (.int .i64 z)
      have hS1 : Blk (wr.setCell ⟨w.heap.size + 1 + 1, 2, none⟩ (.int .i64 z)) (w.heap.size + 1 + 1) 29 (w3 x y z 3) := hS.set_ 2 _
      have hB1 := hB.setCell (p := ⟨w.heap.size + 1 + 1, 2, none⟩) (by simp; omega) (.int .i64 z)
      have ei : Sem.run Tryd.prog (Instr.index 23 (.agg #[.float .f64 f0, .float .f64 f1, .float .f64 f2]) (.int .i64 2)) wr = .ok (.float .f64 f2) wr := by kernel_rfl
      have H := Lib.hid (And.intro hR hB)
      have HH := Lib.hid (And.intro hR1 (And.intro hS1 hB1))
      clear hR hS hB hR1 hS1 hB1
      go_wp2_with fail
      refine (H2.out _).mono ?_; rintro e w6 ⟨rfl, rfl⟩
      cases k2
      · clear HH cs fs
        go_wp2_with (refine wl_store_blk rfl 29 (.tmp 2) (.tmp 21) rfl (w.heap.size + 1) 29 (w3 x y z 0) #[.int .i64 0, .int .i64 0, .int .i64 0] rfl rfl H.out.1 rfl sz3n (w3_one 0 0 0) ?_; intro w5 hR5 hg5 hs5)
        have hl5 : ∀ i, w5.cell? ⟨w.heap.size + 1, i, none⟩ = (#[.int .i64 0, .int .i64 0, .int .i64 0] : Array Value)[i]? := hR5.cell
        exact bodyPost_ret (v := .tuple #[.agg #[.int .i64 0, .int .i64 0, .int .i64 0], .bool false]) (by simp [results, Tryd.results28, go_sem, hl5]) rfl ⟨by simp [wholeX], H.out.2.grown hg5 H.out.2.size (by intro k hk; cases hk; omega)⟩
      · go_wp2_with fail
        go_roundw
        case rel => exact .inr (.inr (.inr (⟨rfl, rfl, (by simp), (by simp), (by simp), HH.out.1, HH.out.2.1, HH.out.2.2⟩)))
        case measure => simp [intOf]
    · obtain ⟨rfl, rfl, rfl, rfl, rfl, hR, hS, hB⟩ := hrel
      have c0 : wr.cell? ⟨w.heap.size + 1 + 1, 0, none⟩ = some (.int .i64 x) := hS.cell 0
      have c1 : wr.cell? ⟨w.heap.size + 1 + 1, 1, none⟩ = some (.int .i64 y) := hS.cell 1
      have c2 : wr.cell? ⟨w.heap.size + 1 + 1, 2, none⟩ = some (.int .i64 z) := hS.cell 2
      have H := Lib.hid (And.intro hR hB)
      clear hR hB hS
      go_wp2_with (refine wl_store_blk rfl 29 (.tmp 2) (.tmp 26) rfl (w.heap.size + 1) 29 (w3 x y z 0) (w3 x y z 3) rfl rfl H.out.1 rfl sz3n (w3_one _ _ _) ?_; intro w5 hR5 hg5 hs5)
      have hl5 : ∀ i, w5.cell? ⟨w.heap.size + 1, i, none⟩ = (#[.int .i64 x, .int .i64 y, .int .i64 z] : Array Value)[i]? := hR5.cell
      exact bodyPost_ret (v := .tuple #[.agg #[.int .i64 x, .int .i64 y, .int .i64 z], .bool true]) (by simp [results, Tryd.results28, go_sem, hl5]) rfl ⟨by simp [wholeX], H.out.2.grown hg5 H.out.2.size (by intro k hk; cases hk; omega)⟩
end Go.Proofs.YtampjkgkiooibaaDoor
