/- bilgelaw12.PodCuts: of whatever bytes: the pod they begin with, and what is left, or that there is none; what is cut is put as it stood. -/
import Derived.Test.YtkpcinkpdonihaaDoorAwake
import Derived.Test.YtkpcinkpdonihaaDoorRefPut
import Derived.Test.YtkpcinkpdonihaaDoorBack3
import Derived.Test.YtkpcinkpdonihaaDoorEqPod
import Derived.Test.YtkpcinkpdonihaaDoorAgain
import Derived.Test.YtkpcinkpdonihaaDoorHeldOp
import Derived.Test.YtkpcinkpdonihaaDoorRefCutAll
namespace Go.Proofs.YtkpcinkpdonihaaDoor
open Go.RowKit

theorem refCut_none (A : Option Addr) (c : Nat) (l : List UInt8) (w : World) (hr : Rds w encB A l) (hc : l.length ≤ c) (hm : c ≤ 9223372036854775807) (hbd : l.length ≤ 140737488355328) (h : cutOf l = none) :
    Calls Tryd.prog 6 #[.slice A l.length c] w fun e w' => e = .returned (.tuple #[.agg zeroPod, .int .i64 0]) ∧ Below w.heap.size w w' :=
  (refCut_any A c l w hr hc hm hbd).mono fun e w' hp => by
    rcases hp with ⟨p', r', h', _⟩ | ⟨_, he, hb⟩
    · rw [h] at h'; cases h'
    · exact ⟨he, hb⟩
theorem refCut_some {p : Pd} {rest : List UInt8} {N : Nat} (A : Option Addr) (c : Nat) (l : List UInt8) (w : World) (hr : Rds w encB A l) (hc : l.length ≤ c) (hm : c ≤ 9223372036854775807) (hbd : l.length ≤ 140737488355328) (h : cutOf l = some (p, rest)) (hN : p.bytes.length = N) :
    Calls Tryd.prog 6 #[.slice A l.length c] w fun e w' => e = .returned (.tuple #[.agg p.cells, .int .i64 (N : Int)]) ∧ Below w.heap.size w w' :=
  (refCut_any A c l w hr hc hm hbd).mono fun e w' hp => by
    rcases hp with ⟨p', r', h', he, hb⟩ | ⟨h', _⟩
    · rw [h] at h'; injection h' with h'; injection h' with h1 h2; subst h1; subst h2
      have hl := congrArg List.length (cut_put h).2.2
      rw [List.length_append, hN] at hl
      rw [he, show l.length - rest.length = N by omega]
      exact ⟨rfl, hb⟩
    · rw [h] at h'; cases h'
theorem same_at (A1 A2 : Option Addr) (l m : List UInt8) (c1 c2 : Nat) (w : World) (h1 : Rds w encB A1 l) (h2 : Rds w encB A2 m) (e : l = m) :
    Calls Tryd.prog 7 #[.slice A1 l.length c1, .slice A2 m.length c2] w fun e w' => e = .returned (.bool true) ∧ Below w.heap.size w w' := by
  subst e
  refine (same_any A1 A2 l l c1 c2 w h1 h2).mono fun e w' h => ⟨?_, h.2 ▸ Below.refl _ _⟩
  rw [h.1, beq_self_eq_true]
theorem same_at' {N : Nat} (A1 A2 : Option Addr) (l : List UInt8) (c1 c2 : Nat) (w : World) (h1 : Rds w encB A1 l) (h2 : Rds w encB A2 l) (e : l.length = N) :
    Calls Tryd.prog 7 #[.slice A1 N c1, .slice A2 N c2] w fun e w' => e = .returned (.bool true) ∧ Below w.heap.size w w' := by
  subst e
  exact same_at A1 A2 l l c1 c2 w h1 h2 rfl
theorem refPut_at {N : Nat} (p : Pd) (w : World) (hp : p.Wf) (hr : p.right = true) (e : p.bytes.length = N) :
    Calls Tryd.prog 8 #[.agg p.cells] w fun e w' => ∃ A c, e = .returned (.slice A N c) ∧ Own w' w.heap.size 5 encB (.slice A p.bytes.length c) p.bytes ∧ Below w.heap.size w w' := by
  subst e
  exact refPut_any p w hp hr
theorem drop_rest {w : World} {b off N c : Nat} {l rest : List UInt8} {p : Pd} (h : Rds w encB (some ⟨b, off, none⟩) l) (hl : l = p.bytes ++ rest) (hN : p.bytes.length = N) (hc : l.length ≤ c) : Rds w encB (if c = N then some ⟨b, off, none⟩ else some ⟨b, off + N, none⟩) rest := by
  have h2 := h.drop N c hc
  rw [hl, ← hN, List.drop_left] at h2
  rw [hN, Nat.mul_one] at h2
  simpa [add_mk] using h2
theorem take_front {w : World} {A : Option Addr} {N : Nat} {l rest : List UInt8} {p : Pd} (h : Rds w encB A l) (hl : l = p.bytes ++ rest) (hN : p.bytes.length = N) : Rds w encB A p.bytes := by
  have h2 := h.take N
  rwa [hl, ← hN, List.take_left] at h2
theorem eqZero (w : World) : (binOp .eql 26 (.agg zeroPod) (.agg zeroPod)).run Tryd.prog w = .ok (.bool true) w := eqPod ⟨⟨#[]⟩, 0, false, 0, 0, 0, 0, 0, 0, ⟨#[]⟩, 0⟩ ⟨⟨#[]⟩, 0, false, 0, 0, 0, 0, 0, 0, ⟨#[]⟩, 0⟩ w |>.trans (by rw [Pd.eqB_self])
attribute [go_sem high] eqZero
set_option maxRecDepth 100000 in
set_option maxHeartbeats 16000000 in
theorem cuts_any (l : List UInt8) (A : Option Addr) (c : Nat) (w : World) (hr : Rds w encB A l) (hlc : l.length ≤ c) (hcm : c ≤ 9223372036854775807) :
    Calls Tryd.prog 3 #[.slice A l.length c] w fun e w' => e = .returned (.bool true) ∧ Below w.heap.size w w' := by
  have mixed : Tryd.prog.follows Departure.mixedOrders = true := by kernel_rfl
  have HM := Lib.hid hr
  clear hr
  have HB := Lib.hid (Below.refl w.heap.size w)
  go_enter Tryd.func3, Tryd.ntmps3
  go_wp2_with fail
  refine (awake_any _).mono ?_; rintro e w1 ⟨rfl, hb⟩
  have HM := Lib.hid (HM.out.below hb)
  have HB := Lib.hid (HB.out.trans (hb.mono HB.out.size))
  clear hb
  by_cases h1 : 1000 < l.length
  · have d1 : decide ((l.length : Int) > 1000) = true := decide_eq_true (by omega)
    have d2 : decide ((1000 : Int) < (l.length : Int)) = true := decide_eq_true (by omega)
    clear h1
    go_wp2_with fail
    refine (awake_any _).mono ?_; rintro e w2 ⟨rfl, hb⟩
    have HM := Lib.hid (HM.out.below hb)
    have HB := Lib.hid (HB.out.trans (hb.mono HB.out.size))
    clear hb
    go_wp2_with fail
    go_ret
    exact ⟨rfl, HB.out⟩
  · have d1 : decide ((l.length : Int) > 1000) = false := decide_eq_false (by omega)
    have d2 : decide ((1000 : Int) < (l.length : Int)) = false := decide_eq_false (by omega)
    have hl1 : l.length ≤ 1000 := by omega
    clear h1
    match hcut : cutOf l with
    | none =>
      have HC := Lib.hid hcut
      clear hcut
      go_wp2_with fail
      refine (cut_none A c l _ HM.out hlc hcm (by omega) HC.out).mono ?_; rintro e w2 ⟨rfl, hb⟩
      have HM := Lib.hid (HM.out.below hb)
      have HB := Lib.hid (HB.out.trans (hb.mono HB.out.size))
      clear hb
      go_wp2_with (refine wl_store_blk rfl 26 (.tmp 3) (.tmp 19) rfl w2.heap.size 26 zeroPod zeroPod rfl rfl (Blk.new _ _ _) rfl infoPod zeroPod_one ?_; intro w3 hN hg hs; have hb := ((Below.refl w2.heap.size w2).alloc (Nat.le_refl _) (.cells zeroPod 26)).grown hg (by simp) (by intro k hk; cases hk; exact Nat.le_refl _); have HQ1 := Lib.hid hN; have HM := Lib.hid (HM.out.below hb); have HB := Lib.hid (HB.out.trans (hb.mono HB.out.size)); clear hN hg hs hb)
      generalize w2.heap.size = n1 at *
      refine (refCut_none A c l _ HM.out hlc hcm (by omega) HC.out).mono ?_; rintro e w4 ⟨rfl, hb⟩
      have HM := Lib.hid (HM.out.below hb)
      have HB := Lib.hid (HB.out.trans (hb.mono HB.out.size))
      have HQ1 := Lib.hid (HQ1.out.belowAll hb)
      clear hb
      go_wp2_with (refine wl_store_blk rfl 26 (.tmp 6) (.tmp 25) rfl w4.heap.size 26 zeroPod zeroPod rfl rfl (Blk.new _ _ _) rfl infoPod zeroPod_one ?_; intro w5 hN hg hs; have hb := ((Below.refl w4.heap.size w4).alloc (Nat.le_refl _) (.cells zeroPod 26)).grown hg (by simp) (by intro k hk; cases hk; exact Nat.le_refl _); have HQ2 := Lib.hid hN; have HM := Lib.hid (HM.out.below hb); have HB := Lib.hid (HB.out.trans (hb.mono HB.out.size)); have HQ1 := Lib.hid (HQ1.out.belowAll hb); have cP : ∀ i, w5.cell? ⟨n1, i, none⟩ = (zeroPod : Array Value)[i]? := HQ1.out.cell; clear hN hg hs hb)
      go_ret
      exact ⟨rfl, HB.out⟩
    | some (p, rest) =>
      obtain ⟨hpw, hpr, hlp⟩ := cut_put hcut
      have HC := Lib.hid hcut
      clear hcut
      have HW := Lib.hid hpw
      have HR := Lib.hid hpr
      clear hpw hpr
      have hN0 : 0 < p.bytes.length := by have := Pd.bytes_len_le p HR.out; omega
      have hLN : l.length = p.bytes.length + rest.length := by rw [hlp, List.length_append]
      obtain ⟨b0, off, rfl, -, -⟩ := HM.out (by intro e; rw [e] at hLN; simp at hLN; omega)
      have HL := Lib.hid hlp
      clear hlp
      obtain ⟨N, hN⟩ : ∃ N, p.bytes.length = N := ⟨_, rfl⟩
      have HN := Lib.hid hN
      rw [hN] at hN0 hLN
      clear hN
      have hNc : N ≤ c := by omega
      have HLN := Lib.hid hLN
      clear hLN
      go_wp2_with fail
      refine (cut_some _ c l _ HM.out hlc hcm (by omega) HC.out).mono ?_; rintro e w2 ⟨A5, c5, rfl, ho, hb⟩
      have HM := Lib.hid (HM.out.below hb)
      have HB := Lib.hid (HB.out.trans (hb.mono HB.out.size))
      have HO := Lib.hid ho
      clear ho hb
      go_wp2_with (refine wl_store_blk rfl 26 (.tmp 3) (.tmp 19) rfl w2.heap.size 26 zeroPod p.cells rfl rfl (Blk.new _ _ _) rfl infoPod (cells_one p) ?_; intro w3 hN hg hs; have hb := ((Below.refl w2.heap.size w2).alloc (Nat.le_refl _) (.cells zeroPod 26)).grown hg (by simp) (by intro k hk; cases hk; exact Nat.le_refl _); have HQ1 := Lib.hid hN; have HM := Lib.hid (HM.out.below hb); have HB := Lib.hid (HB.out.trans (hb.mono HB.out.size)); have HO := Lib.hid (HO.out.below hb (Nat.le_refl _)); clear hN hg hs hb)
      generalize w2.heap.size = n1 at *
      refine (refCut_some _ c l _ HM.out hlc hcm (by omega) HC.out HN.out).mono ?_; rintro e w4 ⟨rfl, hb⟩
      have HM := Lib.hid (HM.out.below hb)
      have HB := Lib.hid (HB.out.trans (hb.mono HB.out.size))
      have HQ1 := Lib.hid (HQ1.out.belowAll hb)
      have HO := Lib.hid (HO.out.below hb (Nat.le_refl _))
      clear hb
      have d0 : ((N : Int) == 0) = false := beq_false_of_ne (by omega)
      go_wp2_with (refine wl_store_blk rfl 26 (.tmp 6) (.tmp 25) rfl w4.heap.size 26 zeroPod p.cells rfl rfl (Blk.new _ _ _) rfl infoPod (cells_one p) ?_; intro w5 hN hg hs; have hb := ((Below.refl w4.heap.size w4).alloc (Nat.le_refl _) (.cells zeroPod 26)).grown hg (by simp) (by intro k hk; cases hk; exact Nat.le_refl _); have HQ2 := Lib.hid hN; have HM := Lib.hid (HM.out.below hb); have HB := Lib.hid (HB.out.trans (hb.mono HB.out.size)); have HQ1 := Lib.hid (HQ1.out.belowAll hb); have HO := Lib.hid (HO.out.below hb (Nat.le_refl _)); clear hN hg hs hb)
      generalize w4.heap.size = n2 at *
      have HM := Lib.hid HM.out.drew
      have HQ1 := Lib.hid HQ1.out.drew
      have HQ2 := Lib.hid HQ2.out.drew
      have HO := Lib.hid HO.out.drew
      have HB := Lib.hid HB.out.drew
      refine wp_region_held_drew (S := (fun w' => w'.cell? ⟨n1, 0, none⟩ = some (.string p.id) ∧ w'.cell? ⟨n1, 1, none⟩ = some (.int .i64 p.prio) ∧ w'.cell? ⟨n1, 2, none⟩ = some (.bool p.crit) ∧ w'.cell? ⟨n1, 3, none⟩ = some (.int .i64 p.q0) ∧ w'.cell? ⟨n1, 4, none⟩ = some (.int .i64 p.q1) ∧ w'.cell? ⟨n1, 5, none⟩ = some (.int .i64 p.q2) ∧ w'.cell? ⟨n1, 6, none⟩ = some (.int .i64 p.l0) ∧ w'.cell? ⟨n1, 7, none⟩ = some (.int .i64 p.l1) ∧ w'.cell? ⟨n1, 8, none⟩ = some (.int .i64 p.l2) ∧ w'.cell? ⟨n1, 9, none⟩ = some (.string p.image) ∧ w'.cell? ⟨n1, 10, none⟩ = some (.int .i64 p.size) ∧ w'.cell? ⟨n2, 0, none⟩ = some (.string p.id) ∧ w'.cell? ⟨n2, 1, none⟩ = some (.int .i64 p.prio) ∧ w'.cell? ⟨n2, 2, none⟩ = some (.bool p.crit) ∧ w'.cell? ⟨n2, 3, none⟩ = some (.int .i64 p.q0) ∧ w'.cell? ⟨n2, 4, none⟩ = some (.int .i64 p.q1) ∧ w'.cell? ⟨n2, 5, none⟩ = some (.int .i64 p.q2) ∧ w'.cell? ⟨n2, 6, none⟩ = some (.int .i64 p.l0) ∧ w'.cell? ⟨n2, 7, none⟩ = some (.int .i64 p.l1) ∧ w'.cell? ⟨n2, 8, none⟩ = some (.int .i64 p.l2) ∧ w'.cell? ⟨n2, 9, none⟩ = some (.string p.image) ∧ w'.cell? ⟨n2, 10, none⟩ = some (.int .i64 p.size))) (by kernel_rfl) (⟨HQ1.out.cell 0, HQ1.out.cell 1, HQ1.out.cell 2, HQ1.out.cell 3, HQ1.out.cell 4, HQ1.out.cell 5, HQ1.out.cell 6, HQ1.out.cell 7, HQ1.out.cell 8, HQ1.out.cell 9, HQ1.out.cell 10, HQ2.out.cell 0, HQ2.out.cell 1, HQ2.out.cell 2, HQ2.out.cell 3, HQ2.out.cell 4, HQ2.out.cell 5, HQ2.out.cell 6, HQ2.out.cell 7, HQ2.out.cell 8, HQ2.out.cell 9, HQ2.out.cell 10⟩) (fun hHeld => ?_)
      refine held_take 0 41 (.int .i64 0) rfl rfl (by kernel_rfl) (by kernel_rfl) (by kernel_rfl) (fun _ _ _ h => h) (by rfl) (by intro w' hSw; (try dsimp only at hSw); go_simp; (try (with_reducible rfl))) (by assumption) ?_
      simp only [Act.put, List.setIfInBounds_toArray, List.set_cons_zero, List.set_cons_succ]
      refine held_take 1 42 (.bool true) rfl rfl (by kernel_rfl) (by kernel_rfl) (by kernel_rfl) (fun _ _ _ h => h) (by rfl) (by intro w' hSw; (try dsimp only at hSw); go_simp; (first | done | with_reducible rfl | (simp; done))) (by assumption) ?_
      simp only [Act.put, List.setIfInBounds_toArray, List.set_cons_zero, List.set_cons_succ]
      refine held_take 2 43 (.bool true) rfl rfl (by kernel_rfl) (by kernel_rfl) (by kernel_rfl) (fun _ _ _ h => h) (by rfl) (by intro w' hSw; (try dsimp only at hSw); go_simp; (try (with_reducible rfl))) (by assumption) ?_
      simp only [Act.put, List.setIfInBounds_toArray, List.set_cons_zero, List.set_cons_succ]
      refine held_take 3 44 (.agg #[.string p.id, .int .i64 p.prio, .bool p.crit, .int .i64 p.q0, .int .i64 p.q1, .int .i64 p.q2, .int .i64 p.l0, .int .i64 p.l1, .int .i64 p.l2, .string p.image, .int .i64 p.size]) rfl rfl (by kernel_rfl) (by kernel_rfl) (by kernel_rfl) (fun _ _ _ h => h) (by rfl) (by intro w' hSw; (try dsimp only at hSw); go_simp; (try (with_reducible rfl))) (by assumption) ?_
      simp only [Act.put, List.setIfInBounds_toArray, List.set_cons_zero, List.set_cons_succ]
      refine held_take 4 45 (.agg #[.string p.id, .int .i64 p.prio, .bool p.crit, .int .i64 p.q0, .int .i64 p.q1, .int .i64 p.q2, .int .i64 p.l0, .int .i64 p.l1, .int .i64 p.l2, .string p.image, .int .i64 p.size]) rfl rfl (by kernel_rfl) (by kernel_rfl) (by kernel_rfl) (fun _ _ _ h => h) (by rfl) (by intro w' hSw; (try dsimp only at hSw); go_simp; (try (with_reducible rfl))) (by assumption) ?_
      simp only [Act.put, List.setIfInBounds_toArray, List.set_cons_zero, List.set_cons_succ]
      refine held_take 5 46 (.bool true) rfl rfl (by kernel_rfl) (by kernel_rfl) (by kernel_rfl) (fun _ _ _ h => h) (by rfl) (by intro w' hSw; (try dsimp only at hSw); go_simp; (first | done | with_reducible rfl | exact p.eqB_self)) (by assumption) ?_
      simp only [Act.put, List.setIfInBounds_toArray, List.set_cons_zero, List.set_cons_succ]
      refine held_take 6 47 (.bool true) rfl rfl (by kernel_rfl) (by kernel_rfl) (by kernel_rfl) (fun _ _ _ h => h) (by rfl) (by intro w' hSw; (try dsimp only at hSw); go_simp; (try (with_reducible rfl))) (by assumption) ?_
      simp only [Act.put, List.setIfInBounds_toArray, List.set_cons_zero, List.set_cons_succ]
      refine held_take 7 48 (.bool true) rfl rfl (by kernel_rfl) (by kernel_rfl) (by kernel_rfl) (fun _ _ _ h => h) (by rfl) (by intro w' hSw; (try dsimp only at hSw); go_simp; (try (with_reducible rfl))) (by assumption) ?_
      simp only [Act.put, List.setIfInBounds_toArray, List.set_cons_zero, List.set_cons_succ]
      refine held_take 8 49 (.slice A5 rest.length c5) rfl rfl (by kernel_rfl) (by kernel_rfl) (by kernel_rfl) (fun _ _ _ h => h) (by rfl) (by intro w' hSw; (try dsimp only at hSw); go_simp; (try (with_reducible rfl))) (by assumption) ?_
      simp only [Act.put, List.setIfInBounds_toArray, List.set_cons_zero, List.set_cons_succ]
      refine held_take 9 50 (.slice (some ⟨b0, off, none⟩) l.length c) rfl rfl (by kernel_rfl) (by kernel_rfl) (by kernel_rfl) (fun _ _ _ h => h) (by rfl) (by intro w' hSw; (try dsimp only at hSw); go_simp; (try (with_reducible rfl))) (by assumption) ?_
      simp only [Act.put, List.setIfInBounds_toArray, List.set_cons_zero, List.set_cons_succ]
      refine held_take 10 51 (.int .i64 N) rfl rfl (by kernel_rfl) (by kernel_rfl) (by kernel_rfl) (fun _ _ _ h => h) (by rfl) (by intro w' hSw; (try dsimp only at hSw); go_simp; (try (with_reducible rfl))) (by assumption) ?_
      simp only [Act.put, List.setIfInBounds_toArray, List.set_cons_zero, List.set_cons_succ]
      refine held_take 11 52 (.slice (if c = N then some ⟨b0, off, none⟩ else some ⟨b0, off + N, none⟩) rest.length (c - N)) rfl rfl (by kernel_rfl) (by kernel_rfl) (by kernel_rfl) (fun _ _ _ h => h) (by rfl) (by intro w' hSw; (try dsimp only at hSw); go_simp; (first | done | with_reducible rfl | (first | (simp [HLN.out]; done) | (simp; omega)))) (by assumption) ?_
      simp only [Act.put, List.setIfInBounds_toArray, List.set_cons_zero, List.set_cons_succ]
      have HD := Lib.hid (drop_rest HM.out HL.out HN.out (c := c) hlc)
      refine held_call 12 53 rfl rfl (by kernel_rfl) (by rfl) (fun K hK => ?_)
      go_simp
      go_at_call 7; (with_reducible refine (same_at _ _ rest rest _ _ _ HO.out.toRds HD.out rfl).mono ?_); rintro x wq ⟨rfl, hb⟩
      have HM := Lib.hid (HM.out.below hb)
      have HB := Lib.hid (HB.out.trans (hb.mono HB.out.size))
      have HQ1 := Lib.hid (HQ1.out.belowAll hb)
      have HQ2 := Lib.hid (HQ2.out.belowAll hb)
      have HO := Lib.hid (HO.out.below hb (Nat.le_refl _))
      clear hb
      refine hK _ _ (⟨HQ1.out.cell 0, HQ1.out.cell 1, HQ1.out.cell 2, HQ1.out.cell 3, HQ1.out.cell 4, HQ1.out.cell 5, HQ1.out.cell 6, HQ1.out.cell 7, HQ1.out.cell 8, HQ1.out.cell 9, HQ1.out.cell 10, HQ2.out.cell 0, HQ2.out.cell 1, HQ2.out.cell 2, HQ2.out.cell 3, HQ2.out.cell 4, HQ2.out.cell 5, HQ2.out.cell 6, HQ2.out.cell 7, HQ2.out.cell 8, HQ2.out.cell 9, HQ2.out.cell 10⟩) ?_
      have hHeld := (show wq.cell? ⟨n1, 0, none⟩ = some (.string p.id) ∧ wq.cell? ⟨n1, 1, none⟩ = some (.int .i64 p.prio) ∧ wq.cell? ⟨n1, 2, none⟩ = some (.bool p.crit) ∧ wq.cell? ⟨n1, 3, none⟩ = some (.int .i64 p.q0) ∧ wq.cell? ⟨n1, 4, none⟩ = some (.int .i64 p.q1) ∧ wq.cell? ⟨n1, 5, none⟩ = some (.int .i64 p.q2) ∧ wq.cell? ⟨n1, 6, none⟩ = some (.int .i64 p.l0) ∧ wq.cell? ⟨n1, 7, none⟩ = some (.int .i64 p.l1) ∧ wq.cell? ⟨n1, 8, none⟩ = some (.int .i64 p.l2) ∧ wq.cell? ⟨n1, 9, none⟩ = some (.string p.image) ∧ wq.cell? ⟨n1, 10, none⟩ = some (.int .i64 p.size) ∧ wq.cell? ⟨n2, 0, none⟩ = some (.string p.id) ∧ wq.cell? ⟨n2, 1, none⟩ = some (.int .i64 p.prio) ∧ wq.cell? ⟨n2, 2, none⟩ = some (.bool p.crit) ∧ wq.cell? ⟨n2, 3, none⟩ = some (.int .i64 p.q0) ∧ wq.cell? ⟨n2, 4, none⟩ = some (.int .i64 p.q1) ∧ wq.cell? ⟨n2, 5, none⟩ = some (.int .i64 p.q2) ∧ wq.cell? ⟨n2, 6, none⟩ = some (.int .i64 p.l0) ∧ wq.cell? ⟨n2, 7, none⟩ = some (.int .i64 p.l1) ∧ wq.cell? ⟨n2, 8, none⟩ = some (.int .i64 p.l2) ∧ wq.cell? ⟨n2, 9, none⟩ = some (.string p.image) ∧ wq.cell? ⟨n2, 10, none⟩ = some (.int .i64 p.size) from ⟨HQ1.out.cell 0, HQ1.out.cell 1, HQ1.out.cell 2, HQ1.out.cell 3, HQ1.out.cell 4, HQ1.out.cell 5, HQ1.out.cell 6, HQ1.out.cell 7, HQ1.out.cell 8, HQ1.out.cell 9, HQ1.out.cell 10, HQ2.out.cell 0, HQ2.out.cell 1, HQ2.out.cell 2, HQ2.out.cell 3, HQ2.out.cell 4, HQ2.out.cell 5, HQ2.out.cell 6, HQ2.out.cell 7, HQ2.out.cell 8, HQ2.out.cell 9, HQ2.out.cell 10⟩)
      clear hK K
      simp only [Act.put, List.setIfInBounds_toArray, List.set_cons_zero, List.set_cons_succ]
      refine held_take 13 54 (.bool true) rfl rfl (by kernel_rfl) (by kernel_rfl) (by kernel_rfl) (fun _ _ _ h => h) (by rfl) (by intro w' hSw; (try dsimp only at hSw); go_simp; (try (with_reducible rfl))) (by assumption) ?_
      simp only [Act.put, List.setIfInBounds_toArray, List.set_cons_zero, List.set_cons_succ]
      refine held_take 14 55 (.bool true) rfl rfl (by kernel_rfl) (by kernel_rfl) (by kernel_rfl) (fun _ _ _ h => h) (by rfl) (by intro w' hSw; (try dsimp only at hSw); go_simp; (try (with_reducible rfl))) (by assumption) ?_
      simp only [Act.put, List.setIfInBounds_toArray, List.set_cons_zero, List.set_cons_succ]
      refine held_take 15 56 (.agg #[.string p.id, .int .i64 p.prio, .bool p.crit, .int .i64 p.q0, .int .i64 p.q1, .int .i64 p.q2, .int .i64 p.l0, .int .i64 p.l1, .int .i64 p.l2, .string p.image, .int .i64 p.size]) rfl rfl (by kernel_rfl) (by kernel_rfl) (by kernel_rfl) (fun _ _ _ h => h) (by rfl) (by intro w' hSw; (try dsimp only at hSw); go_simp; (try (with_reducible rfl))) (by assumption) ?_
      simp only [Act.put, List.setIfInBounds_toArray, List.set_cons_zero, List.set_cons_succ]
      refine held_take 17 58 (.slice (some ⟨b0, off, none⟩) l.length c) rfl rfl (by kernel_rfl) (by kernel_rfl) (by kernel_rfl) (fun _ _ _ h => h) (by rfl) (by intro w' hSw; (try dsimp only at hSw); go_simp; (try (with_reducible rfl))) (by assumption) ?_
      simp only [Act.put, List.setIfInBounds_toArray, List.set_cons_zero, List.set_cons_succ]
      refine held_take 18 59 (.int .i64 N) rfl rfl (by kernel_rfl) (by kernel_rfl) (by kernel_rfl) (fun _ _ _ h => h) (by rfl) (by intro w' hSw; (try dsimp only at hSw); go_simp; (try (with_reducible rfl))) (by assumption) ?_
      simp only [Act.put, List.setIfInBounds_toArray, List.set_cons_zero, List.set_cons_succ]
      refine held_take 19 60 (.slice (some ⟨b0, off, none⟩) N c) rfl rfl (by kernel_rfl) (by kernel_rfl) (by kernel_rfl) (fun _ _ _ h => h) (by rfl) (by intro w' hSw; (try dsimp only at hSw); go_simp; (first | done | with_reducible rfl | (intro h; exact absurd h (by omega)))) (by assumption) ?_
      simp only [Act.put, List.setIfInBounds_toArray, List.set_cons_zero, List.set_cons_succ]
      refine held_call 16 57 rfl rfl (by kernel_rfl) (by rfl) (fun K hK => ?_)
      go_simp
      go_at_call 8; (with_reducible refine (refPut_at p _ HW.out HR.out HN.out).mono ?_); rintro x wq ⟨A6, c6, rfl, ho, hb⟩
      have HM := Lib.hid (HM.out.below hb)
      have HB := Lib.hid (HB.out.trans (hb.mono HB.out.size))
      have HQ1 := Lib.hid (HQ1.out.belowAll hb)
      have HQ2 := Lib.hid (HQ2.out.belowAll hb)
      have HO := Lib.hid (HO.out.below hb (Nat.le_refl _))
      have HP := Lib.hid ho; clear ho hb
      refine hK _ _ (⟨HQ1.out.cell 0, HQ1.out.cell 1, HQ1.out.cell 2, HQ1.out.cell 3, HQ1.out.cell 4, HQ1.out.cell 5, HQ1.out.cell 6, HQ1.out.cell 7, HQ1.out.cell 8, HQ1.out.cell 9, HQ1.out.cell 10, HQ2.out.cell 0, HQ2.out.cell 1, HQ2.out.cell 2, HQ2.out.cell 3, HQ2.out.cell 4, HQ2.out.cell 5, HQ2.out.cell 6, HQ2.out.cell 7, HQ2.out.cell 8, HQ2.out.cell 9, HQ2.out.cell 10⟩) ?_
      have hHeld := (show wq.cell? ⟨n1, 0, none⟩ = some (.string p.id) ∧ wq.cell? ⟨n1, 1, none⟩ = some (.int .i64 p.prio) ∧ wq.cell? ⟨n1, 2, none⟩ = some (.bool p.crit) ∧ wq.cell? ⟨n1, 3, none⟩ = some (.int .i64 p.q0) ∧ wq.cell? ⟨n1, 4, none⟩ = some (.int .i64 p.q1) ∧ wq.cell? ⟨n1, 5, none⟩ = some (.int .i64 p.q2) ∧ wq.cell? ⟨n1, 6, none⟩ = some (.int .i64 p.l0) ∧ wq.cell? ⟨n1, 7, none⟩ = some (.int .i64 p.l1) ∧ wq.cell? ⟨n1, 8, none⟩ = some (.int .i64 p.l2) ∧ wq.cell? ⟨n1, 9, none⟩ = some (.string p.image) ∧ wq.cell? ⟨n1, 10, none⟩ = some (.int .i64 p.size) ∧ wq.cell? ⟨n2, 0, none⟩ = some (.string p.id) ∧ wq.cell? ⟨n2, 1, none⟩ = some (.int .i64 p.prio) ∧ wq.cell? ⟨n2, 2, none⟩ = some (.bool p.crit) ∧ wq.cell? ⟨n2, 3, none⟩ = some (.int .i64 p.q0) ∧ wq.cell? ⟨n2, 4, none⟩ = some (.int .i64 p.q1) ∧ wq.cell? ⟨n2, 5, none⟩ = some (.int .i64 p.q2) ∧ wq.cell? ⟨n2, 6, none⟩ = some (.int .i64 p.l0) ∧ wq.cell? ⟨n2, 7, none⟩ = some (.int .i64 p.l1) ∧ wq.cell? ⟨n2, 8, none⟩ = some (.int .i64 p.l2) ∧ wq.cell? ⟨n2, 9, none⟩ = some (.string p.image) ∧ wq.cell? ⟨n2, 10, none⟩ = some (.int .i64 p.size) from ⟨HQ1.out.cell 0, HQ1.out.cell 1, HQ1.out.cell 2, HQ1.out.cell 3, HQ1.out.cell 4, HQ1.out.cell 5, HQ1.out.cell 6, HQ1.out.cell 7, HQ1.out.cell 8, HQ1.out.cell 9, HQ1.out.cell 10, HQ2.out.cell 0, HQ2.out.cell 1, HQ2.out.cell 2, HQ2.out.cell 3, HQ2.out.cell 4, HQ2.out.cell 5, HQ2.out.cell 6, HQ2.out.cell 7, HQ2.out.cell 8, HQ2.out.cell 9, HQ2.out.cell 10⟩)
      clear hK K
      simp only [Act.put, List.setIfInBounds_toArray, List.set_cons_zero, List.set_cons_succ]
      have HT := Lib.hid (take_front HM.out HL.out HN.out)
      refine held_call 20 61 rfl rfl (by kernel_rfl) (by rfl) (fun K hK => ?_)
      go_simp
      go_at_call 7; (with_reducible refine (same_at' _ _ p.bytes _ _ _ HP.out.toRds HT.out HN.out).mono ?_); rintro x wq ⟨rfl, hb⟩
      have HM := Lib.hid (HM.out.below hb)
      have HB := Lib.hid (HB.out.trans (hb.mono HB.out.size))
      have HQ1 := Lib.hid (HQ1.out.belowAll hb)
      have HQ2 := Lib.hid (HQ2.out.belowAll hb)
      have HO := Lib.hid (HO.out.below hb (Nat.le_refl _))
      clear hb
      refine hK _ _ (⟨HQ1.out.cell 0, HQ1.out.cell 1, HQ1.out.cell 2, HQ1.out.cell 3, HQ1.out.cell 4, HQ1.out.cell 5, HQ1.out.cell 6, HQ1.out.cell 7, HQ1.out.cell 8, HQ1.out.cell 9, HQ1.out.cell 10, HQ2.out.cell 0, HQ2.out.cell 1, HQ2.out.cell 2, HQ2.out.cell 3, HQ2.out.cell 4, HQ2.out.cell 5, HQ2.out.cell 6, HQ2.out.cell 7, HQ2.out.cell 8, HQ2.out.cell 9, HQ2.out.cell 10⟩) ?_
      have hHeld := (show wq.cell? ⟨n1, 0, none⟩ = some (.string p.id) ∧ wq.cell? ⟨n1, 1, none⟩ = some (.int .i64 p.prio) ∧ wq.cell? ⟨n1, 2, none⟩ = some (.bool p.crit) ∧ wq.cell? ⟨n1, 3, none⟩ = some (.int .i64 p.q0) ∧ wq.cell? ⟨n1, 4, none⟩ = some (.int .i64 p.q1) ∧ wq.cell? ⟨n1, 5, none⟩ = some (.int .i64 p.q2) ∧ wq.cell? ⟨n1, 6, none⟩ = some (.int .i64 p.l0) ∧ wq.cell? ⟨n1, 7, none⟩ = some (.int .i64 p.l1) ∧ wq.cell? ⟨n1, 8, none⟩ = some (.int .i64 p.l2) ∧ wq.cell? ⟨n1, 9, none⟩ = some (.string p.image) ∧ wq.cell? ⟨n1, 10, none⟩ = some (.int .i64 p.size) ∧ wq.cell? ⟨n2, 0, none⟩ = some (.string p.id) ∧ wq.cell? ⟨n2, 1, none⟩ = some (.int .i64 p.prio) ∧ wq.cell? ⟨n2, 2, none⟩ = some (.bool p.crit) ∧ wq.cell? ⟨n2, 3, none⟩ = some (.int .i64 p.q0) ∧ wq.cell? ⟨n2, 4, none⟩ = some (.int .i64 p.q1) ∧ wq.cell? ⟨n2, 5, none⟩ = some (.int .i64 p.q2) ∧ wq.cell? ⟨n2, 6, none⟩ = some (.int .i64 p.l0) ∧ wq.cell? ⟨n2, 7, none⟩ = some (.int .i64 p.l1) ∧ wq.cell? ⟨n2, 8, none⟩ = some (.int .i64 p.l2) ∧ wq.cell? ⟨n2, 9, none⟩ = some (.string p.image) ∧ wq.cell? ⟨n2, 10, none⟩ = some (.int .i64 p.size) from ⟨HQ1.out.cell 0, HQ1.out.cell 1, HQ1.out.cell 2, HQ1.out.cell 3, HQ1.out.cell 4, HQ1.out.cell 5, HQ1.out.cell 6, HQ1.out.cell 7, HQ1.out.cell 8, HQ1.out.cell 9, HQ1.out.cell 10, HQ2.out.cell 0, HQ2.out.cell 1, HQ2.out.cell 2, HQ2.out.cell 3, HQ2.out.cell 4, HQ2.out.cell 5, HQ2.out.cell 6, HQ2.out.cell 7, HQ2.out.cell 8, HQ2.out.cell 9, HQ2.out.cell 10⟩)
      clear hK K
      simp only [Act.put, List.setIfInBounds_toArray, List.set_cons_zero, List.set_cons_succ]
      refine held_take 21 62 (.bool true) rfl rfl (by kernel_rfl) (by kernel_rfl) (by kernel_rfl) (fun _ _ _ h => h) (by rfl) (by intro w' hSw; (try dsimp only at hSw); go_simp; (try (with_reducible rfl))) (by assumption) ?_
      simp only [Act.put, List.setIfInBounds_toArray, List.set_cons_zero, List.set_cons_succ]
      refine held_take 22 2 (.bool true) rfl rfl (by kernel_rfl) (by kernel_rfl) (by kernel_rfl) (fun _ _ _ h => h) (by rfl) (by intro w' hSw; (try dsimp only at hSw); go_simp; (try (with_reducible rfl))) (by assumption) ?_
      simp only [Act.put, List.setIfInBounds_toArray, List.set_cons_zero, List.set_cons_succ]
      refine wpAnyH_done (by kernel_rfl) ?_ _
      clear hHeld
      go_wp2_with fail
      all_goals (go_ret; exact ⟨rfl, HB.out⟩)
end Go.Proofs.YtkpcinkpdonihaaDoor
