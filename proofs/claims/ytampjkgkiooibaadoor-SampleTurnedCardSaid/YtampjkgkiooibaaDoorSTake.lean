/- sample.Take, sample.Right, and the document's Take. -/
import Derived.Test.YtampjkgkiooibaaDoorSRead
import Derived.Test.YtampjkgkiooibaaDoorRead17
namespace Go.Proofs.YtampjkgkiooibaaDoor
open Go.RowKit

theorem Rw.Wf.below {r : Rw} {w W : World} (h : r.Wf w) (hb : Below w.heap.size w W) : r.Wf W := ⟨h.h0, h.h1, h.h2, h.time, h.rds.below hb, h.us, h.ids, h.len, h.cap⟩
def staleB (t last round most : Int) : Bool := decide (t ≤ last) || (decide (round < t) || decide (most ≤ round - t))
theorem stale_1 {t last round most : Int} (h : t ≤ last) : staleB t last round most = true := by unfold staleB; simp [h]
theorem stale_2 {t last round most : Int} (h : round < t) : staleB t last round most = true := by unfold staleB; simp [h]
theorem stale_3 {t last round most : Int} (h : most ≤ round - t) : staleB t last round most = true := by unfold staleB; simp [h]
theorem stale_no {t last round most : Int} (h1 : ¬ t ≤ last) (h2 : ¬ round < t) (h3 : ¬ most ≤ round - t) : staleB t last round most = false := by unfold staleB; simp [h1, h2, h3]
/-- the error, if there is one -/
def takeD (v st : Bool) : Option Int := if v = false then some 1 else if st = true then some 8 else none
def TakeP (t V0 V1 V2 : Int) (L : List Us) (w : World) : Option Int → Ending → World → Prop
  | none, e, w' => ∃ A c, e = .returned (.tuple #[.agg #[.int .i64 t, .int .i64 V0, .int .i64 V1, .int .i64 V2, .slice A L.length c], .int .i64 0]) ∧ Own w' w.heap.size 51 encU (.slice A L.length c) L ∧ Below w.heap.size w w'
  | some k, e, w' => e = .returned (.tuple #[.agg #[.int .i64 0, .int .i64 0, .int .i64 0, .int .i64 0, .slice none 0 0], .int .i64 k]) ∧ Below w.heap.size w w'
set_option maxRecDepth 100000 in
set_option maxHeartbeats 4000000 in
theorem sright_any {t : Int} {v0 v1 v2 c : Nat} {A : Option Addr} {l : List Ug} {v : Bool} (w : World) (hv : v = true ↔ RightR ⟨t, v0, v1, v2, A, l, c⟩) (hr : Rw.Wf ⟨t, v0, v1, v2, A, l, c⟩ w) :
    Calls Tryd.prog 13 #[.agg #[.int .i64 t, .float .f64 v0, .float .f64 v1, .float .f64 v2, .slice A l.length c]] w fun e w' => e = .returned (.bool v) ∧ Below w.heap.size w w' := by
  have HQ : Hid (RQ (⟨t, v0, v1, v2, A, l, c⟩ : Rw) w (w.alloc (.cells #[.int .i64 t, .float .f64 v0, .float .f64 v1, .float .f64 v2, .slice A l.length c] 26))) := RQ.new _ w hr.rds
  have HWF : Hid (Rw.Wf (⟨t, v0, v1, v2, A, l, c⟩ : Rw) (w.alloc (.cells #[.int .i64 t, .float .f64 v0, .float .f64 v1, .float .f64 v2, .slice A l.length c] 26))) := hr.below HQ.out.bel
  have HVV := Lib.hid hv
  have cr : ∀ i, (w.alloc (.cells #[.int .i64 t, .float .f64 v0, .float .f64 v1, .float .f64 v2, .slice A l.length c] 26)).cell? ⟨w.heap.size, i, none⟩ = (#[.int .i64 t, .float .f64 v0, .float .f64 v1, .float .f64 v2, .slice A l.length c] : Array Value)[i]? := HQ.out.box.cell
  clear hr hv
  go_enter Tryd.func13, Tryd.ntmps13
  go_wp2_with fail
  cases v
  · refine (sread_any HVV.out _ HWF.out).mono ?_; rintro e w1 ⟨rfl, hb⟩
    have HQ := Lib.hid (HQ.out.below hb)
    have HN0 := Lib.hid (Blk.new w1 32 #[.int .i64 0, .int .i64 0, .int .i64 0, .int .i64 0, .slice none 0 0])
    clear hb cr
    go_wp2_with (refine wl_store_blk rfl 32 (.tmp 3) (.tmp 8) rfl w1.heap.size 32 #[.int .i64 0, .int .i64 0, .int .i64 0, .int .i64 0, .slice none 0 0] #[.int .i64 0, .int .i64 0, .int .i64 0, .int .i64 0, .slice none 0 0] rfl rfl HN0.out rfl szS (by simp [Value.oneCell']) ?_; intro w2 hN1 hg1 hs1; have HQ := Lib.hid (HQ.out.fresh hg1); clear hN1 hg1 hs1)
    go_ret
    exact ⟨rfl, HQ.out.bel⟩
  · refine (sread_walk _ HVV.out HWF.out rfl rfl rfl).mono ?_; rintro e w1 ⟨As, cs, rfl, ho, hb⟩
    have HQ := Lib.hid (HQ.out.below hb)
    have HN0 := Lib.hid (Blk.new w1 32 #[.int .i64 0, .int .i64 0, .int .i64 0, .int .i64 0, .slice none 0 0])
    clear ho hb cr
    generalize readN v0 = V0 at *
    generalize readN v1 = V1 at *
    generalize readN v2 = V2 at *
    generalize (readUses l).length = nl at *
    go_wp2_with (refine wl_store_blk rfl 32 (.tmp 3) (.tmp 8) rfl w1.heap.size 32 #[.int .i64 0, .int .i64 0, .int .i64 0, .int .i64 0, .slice none 0 0] #[.int .i64 t, .int .i64 V0, .int .i64 V1, .int .i64 V2, .slice As nl cs] rfl rfl HN0.out rfl szS (by simp [Value.oneCell']) ?_; intro w2 hN1 hg1 hs1; have HQ := Lib.hid (HQ.out.fresh hg1); clear hN1 hg1 hs1)
    go_ret
    exact ⟨rfl, HQ.out.bel⟩
set_option maxRecDepth 100000 in
set_option maxHeartbeats 16000000 in
theorem take_any {t V0 V1 V2 last round most : Int} {v0 v1 v2 c : Nat} {A : Option Addr} {l : List Ug} {v : Bool} (w : World) (hv : v = true ↔ RightR ⟨t, v0, v1, v2, A, l, c⟩) (hr : Rw.Wf ⟨t, v0, v1, v2, A, l, c⟩ w) (hV0 : readN v0 = V0) (hV1 : readN v1 = V1) (hV2 : readN v2 = V2) (hl : -1 ≤ last) (hr0 : 0 ≤ round) (hr1 : round ≤ 1099511627776) (hm : 1 ≤ most) (hmm : most ≤ 9223372036854775807) :
    Calls Tryd.prog 19 #[.agg #[.int .i64 t, .float .f64 v0, .float .f64 v1, .float .f64 v2, .slice A l.length c], .int .i64 last, .int .i64 round, .int .i64 most] w (TakeP t V0 V1 V2 (readUses l) w (takeD v (staleB t last round most))) := by
  have HD : Hid (DQ (⟨t, v0, v1, v2, A, l, c⟩ : Rw) w ((w.alloc (.cells #[.int .i64 t, .float .f64 v0, .float .f64 v1, .float .f64 v2, .slice A l.length c] 26)).alloc (.cells #[.int .i64 0, .int .i64 0, .int .i64 0, .int .i64 0, .slice none 0 0] 32))) := DQ.new _ w hr.rds
  have HWF : Hid (Rw.Wf (⟨t, v0, v1, v2, A, l, c⟩ : Rw) ((w.alloc (.cells #[.int .i64 t, .float .f64 v0, .float .f64 v1, .float .f64 v2, .slice A l.length c] 26)).alloc (.cells #[.int .i64 0, .int .i64 0, .int .i64 0, .int .i64 0, .slice none 0 0] 32))) := hr.below HD.out.bel
  have HVV := Lib.hid hv
  have HZ : Hid (((w.alloc (.cells #[.int .i64 t, .float .f64 v0, .float .f64 v1, .float .f64 v2, .slice A l.length c] 26)).alloc (.cells #[.int .i64 0, .int .i64 0, .int .i64 0, .int .i64 0, .slice none 0 0] 32)).heap.size = w.heap.size + 1 + 1) := by show _ = _; simp
  have cr : ∀ i, ((w.alloc (.cells #[.int .i64 t, .float .f64 v0, .float .f64 v1, .float .f64 v2, .slice A l.length c] 26)).alloc (.cells #[.int .i64 0, .int .i64 0, .int .i64 0, .int .i64 0, .slice none 0 0] 32)).cell? ⟨w.heap.size, i, none⟩ = (#[.int .i64 t, .float .f64 v0, .float .f64 v1, .float .f64 v2, .slice A l.length c] : Array Value)[i]? := HD.out.rq.box.cell
  have HBD : Hid ((-1 : Int) ≤ last ∧ 0 ≤ round ∧ round ≤ 1099511627776 ∧ 1 ≤ most ∧ most ≤ 9223372036854775807 ∧ I64 t) := ⟨hl, hr0, hr1, hm, hmm, hr.time⟩
  have ht := hr.time
  clear hr hv hl hr0 hr1 hm hmm
  go_enter Tryd.func19, Tryd.ntmps19
  go_wp2_with fail
  cases v
  · refine (sread_any HVV.out _ HWF.out).mono ?_; rintro e w1 ⟨rfl, hb⟩
    have HD := Lib.hid (HD.out.below hb)
    have HD := Lib.hid (HD.out.alloc (.cells #[.int .i64 0, .int .i64 0, .int .i64 0, .int .i64 0, .slice none 0 0] 32))
    clear hb cr HWF HBD ht HZ hV0 hV1 hV2
    have r0 := HD.out.res.cell 0
    have f0 := HD.out.res.frozen 0
    have r1 := HD.out.res.cell 1
    have f1 := HD.out.res.frozen 1
    have r2 := HD.out.res.cell 2
    have f2 := HD.out.res.frozen 2
    have r3 := HD.out.res.cell 3
    have f3 := HD.out.res.frozen 3
    have r4 := HD.out.res.cell 4
    have f4 := HD.out.res.frozen 4
    simp only [List.getElem?_toArray, List.getElem?_cons_zero, List.getElem?_cons_succ] at r0 r1 r2 r3 r4
    go_wp2_with fail
    have hB5 := (((((HD.out.bel.setCell (p := ⟨w.heap.size + 1, 0, none⟩) (Nat.le_succ _) (.int .i64 0)).setCell (p := ⟨w.heap.size + 1, 1, none⟩) (Nat.le_succ _) (.int .i64 0)).setCell (p := ⟨w.heap.size + 1, 2, none⟩) (Nat.le_succ _) (.int .i64 0)).setCell (p := ⟨w.heap.size + 1, 3, none⟩) (Nat.le_succ _) (.int .i64 0)).setCell (p := ⟨w.heap.size + 1, 4, none⟩) (Nat.le_succ _) (.slice none 0 0))
    have hR5 : Blk (((((((w1.alloc (.cells #[.int .i64 0, .int .i64 0, .int .i64 0, .int .i64 0, .slice none 0 0] 32)).setCell ⟨w.heap.size + 1, 0, none⟩ (.int .i64 0)).setCell ⟨w.heap.size + 1, 1, none⟩ (.int .i64 0)).setCell ⟨w.heap.size + 1, 2, none⟩ (.int .i64 0)).setCell ⟨w.heap.size + 1, 3, none⟩ (.int .i64 0)).setCell ⟨w.heap.size + 1, 4, none⟩ (.slice none 0 0))) (w.heap.size + 1) 32 #[.int .i64 0, .int .i64 0, .int .i64 0, .int .i64 0, .slice none 0 0] := by have h := (((((HD.out.res.set_ 0 (.int .i64 0)).set_ 1 (.int .i64 0)).set_ 2 (.int .i64 0)).set_ 3 (.int .i64 0)).set_ 4 (.slice none 0 0)); simpa using h
    have hl5 := hR5.cell
    exact bodyPost_ret (v := .tuple #[.agg #[.int .i64 0, .int .i64 0, .int .i64 0, .int .i64 0, .slice none 0 0], .int .i64 1]) (by simp [results, Tryd.results19, go_sem, hl5]) rfl ⟨rfl, hB5⟩
  · refine (sread_walk _ HVV.out HWF.out hV0 hV1 hV2).mono ?_; rintro e w1 ⟨As, cs, rfl, ho, hb⟩
    obtain ⟨nl, hnl⟩ : ∃ n, (readUses l).length = n := ⟨_, rfl⟩
    have HNL := Lib.hid hnl
    rw [hnl] at ho
    rw [hnl]
    clear hnl
    have HD := Lib.hid (HD.out.below hb)
    have HN0 := Lib.hid (Blk.new w1 32 #[.int .i64 0, .int .i64 0, .int .i64 0, .int .i64 0, .slice none 0 0])
    have HO := Lib.hid (ho.mono (by have := HZ.out; omega : w.heap.size ≤ _))
    clear ho hb cr hV0 hV1 hV2
    by_cases h1 : t ≤ last
    · have d1 : decide (t ≤ last) = true := decide_eq_true h1
      have HST := Lib.hid (stale_1 (last := last) (round := round) (most := most) h1)
      clear h1
      go_wp2_with (first | (refine wl_store_blk rfl 32 (.tmp 10) (.tmp 15) rfl w1.heap.size 32 #[.int .i64 0, .int .i64 0, .int .i64 0, .int .i64 0, .slice none 0 0] #[.int .i64 t, .int .i64 V0, .int .i64 V1, .int .i64 V2, .slice As nl cs] rfl rfl HN0.out rfl szS (by simp [Value.oneCell']) ?_; intro w2 hN1 hg1 hs1; have HO := Lib.hid ((HO.out.alloc _).grown hg1 (.inr fun e => by have := (HO.out.block_lt _ e).2; omega)); have HD := Lib.hid (HD.out.fresh hg1); have HN := Lib.hid hN1; have cn : ∀ i, w2.cell? ⟨w1.heap.size, i, none⟩ = (#[.int .i64 t, .int .i64 V0, .int .i64 V1, .int .i64 V2, .slice As nl cs] : Array Value)[i]? := HN.out.cell; clear hN1 hg1 hs1) | (refine wl_store_blk rfl 32 (.tmp 8) (.tmp 39) rfl (w.heap.size + 1) 32 #[.int .i64 0, .int .i64 0, .int .i64 0, .int .i64 0, .slice none 0 0] #[.int .i64 0, .int .i64 0, .int .i64 0, .int .i64 0, .slice none 0 0] rfl rfl HD.out.res rfl szS (by simp [Value.oneCell']) ?_; intro w7 hR5 hg5 hs5))
      have hl5 : ∀ i, w7.cell? ⟨w.heap.size + 1, i, none⟩ = (#[.int .i64 0, .int .i64 0, .int .i64 0, .int .i64 0, .slice none 0 0] : Array Value)[i]? := hR5.cell
      have HB7 := Lib.hid (HD.out.bel.grown hg5 HD.out.bel.size (by intro k hk; cases hk; exact Nat.le_succ _))
      exact bodyPost_ret (v := .tuple #[.agg #[.int .i64 0, .int .i64 0, .int .i64 0, .int .i64 0, .slice none 0 0], .int .i64 8]) (by simp [results, Tryd.results19, go_sem, hl5]) rfl (by rw [HST.out]; exact ⟨rfl, HB7.out⟩)
    · have d1 : decide (t ≤ last) = false := decide_eq_false h1
      by_cases h2 : round < t
      · have d2 : decide (round < t) = true := decide_eq_true h2
        have HST := Lib.hid (stale_2 (last := last) (most := most) h2)
        clear h1 h2
        go_wp2_with (first | (refine wl_store_blk rfl 32 (.tmp 10) (.tmp 15) rfl w1.heap.size 32 #[.int .i64 0, .int .i64 0, .int .i64 0, .int .i64 0, .slice none 0 0] #[.int .i64 t, .int .i64 V0, .int .i64 V1, .int .i64 V2, .slice As nl cs] rfl rfl HN0.out rfl szS (by simp [Value.oneCell']) ?_; intro w2 hN1 hg1 hs1; have HO := Lib.hid ((HO.out.alloc _).grown hg1 (.inr fun e => by have := (HO.out.block_lt _ e).2; omega)); have HD := Lib.hid (HD.out.fresh hg1); have HN := Lib.hid hN1; have cn : ∀ i, w2.cell? ⟨w1.heap.size, i, none⟩ = (#[.int .i64 t, .int .i64 V0, .int .i64 V1, .int .i64 V2, .slice As nl cs] : Array Value)[i]? := HN.out.cell; clear hN1 hg1 hs1) | (refine wl_store_blk rfl 32 (.tmp 8) (.tmp 39) rfl (w.heap.size + 1) 32 #[.int .i64 0, .int .i64 0, .int .i64 0, .int .i64 0, .slice none 0 0] #[.int .i64 0, .int .i64 0, .int .i64 0, .int .i64 0, .slice none 0 0] rfl rfl HD.out.res rfl szS (by simp [Value.oneCell']) ?_; intro w7 hR5 hg5 hs5))
        have hl5 : ∀ i, w7.cell? ⟨w.heap.size + 1, i, none⟩ = (#[.int .i64 0, .int .i64 0, .int .i64 0, .int .i64 0, .slice none 0 0] : Array Value)[i]? := hR5.cell
        have HB7 := Lib.hid (HD.out.bel.grown hg5 HD.out.bel.size (by intro k hk; cases hk; exact Nat.le_succ _))
        exact bodyPost_ret (v := .tuple #[.agg #[.int .i64 0, .int .i64 0, .int .i64 0, .int .i64 0, .slice none 0 0], .int .i64 8]) (by simp [results, Tryd.results19, go_sem, hl5]) rfl (by rw [HST.out]; exact ⟨rfl, HB7.out⟩)
      · have d2 : decide (round < t) = false := decide_eq_false h2
        have e3 : wrap64 (round - t) = round - t := by have := HBD.out; unfold wrap64; omega
        by_cases h3 : most ≤ round - t
        · have d3 : decide (most ≤ round - t) = true := decide_eq_true h3
          have HST := Lib.hid (stale_3 (last := last) h3)
          clear h1 h2 h3
          go_wp2_with (first | (refine wl_store_blk rfl 32 (.tmp 10) (.tmp 15) rfl w1.heap.size 32 #[.int .i64 0, .int .i64 0, .int .i64 0, .int .i64 0, .slice none 0 0] #[.int .i64 t, .int .i64 V0, .int .i64 V1, .int .i64 V2, .slice As nl cs] rfl rfl HN0.out rfl szS (by simp [Value.oneCell']) ?_; intro w2 hN1 hg1 hs1; have HO := Lib.hid ((HO.out.alloc _).grown hg1 (.inr fun e => by have := (HO.out.block_lt _ e).2; omega)); have HD := Lib.hid (HD.out.fresh hg1); have HN := Lib.hid hN1; have cn : ∀ i, w2.cell? ⟨w1.heap.size, i, none⟩ = (#[.int .i64 t, .int .i64 V0, .int .i64 V1, .int .i64 V2, .slice As nl cs] : Array Value)[i]? := HN.out.cell; clear hN1 hg1 hs1) | (refine wl_store_blk rfl 32 (.tmp 8) (.tmp 39) rfl (w.heap.size + 1) 32 #[.int .i64 0, .int .i64 0, .int .i64 0, .int .i64 0, .slice none 0 0] #[.int .i64 0, .int .i64 0, .int .i64 0, .int .i64 0, .slice none 0 0] rfl rfl HD.out.res rfl szS (by simp [Value.oneCell']) ?_; intro w7 hR5 hg5 hs5))
          have hl5 : ∀ i, w7.cell? ⟨w.heap.size + 1, i, none⟩ = (#[.int .i64 0, .int .i64 0, .int .i64 0, .int .i64 0, .slice none 0 0] : Array Value)[i]? := hR5.cell
          have HB7 := Lib.hid (HD.out.bel.grown hg5 HD.out.bel.size (by intro k hk; cases hk; exact Nat.le_succ _))
          exact bodyPost_ret (v := .tuple #[.agg #[.int .i64 0, .int .i64 0, .int .i64 0, .int .i64 0, .slice none 0 0], .int .i64 8]) (by simp [results, Tryd.results19, go_sem, hl5]) rfl (by rw [HST.out]; exact ⟨rfl, HB7.out⟩)
        · have d3 : decide (most ≤ round - t) = false := decide_eq_false h3
          have HST := Lib.hid (stale_no h1 h2 h3)
          clear h1 h2 h3
          go_wp2_with (first | (refine wl_store_blk rfl 32 (.tmp 10) (.tmp 15) rfl w1.heap.size 32 #[.int .i64 0, .int .i64 0, .int .i64 0, .int .i64 0, .slice none 0 0] #[.int .i64 t, .int .i64 V0, .int .i64 V1, .int .i64 V2, .slice As nl cs] rfl rfl HN0.out rfl szS (by simp [Value.oneCell']) ?_; intro w2 hN1 hg1 hs1; have HO := Lib.hid ((HO.out.alloc _).grown hg1 (.inr fun e => by have := (HO.out.block_lt _ e).2; omega)); have HD := Lib.hid (HD.out.fresh hg1); have HN := Lib.hid hN1; have cn : ∀ i, w2.cell? ⟨w1.heap.size, i, none⟩ = (#[.int .i64 t, .int .i64 V0, .int .i64 V1, .int .i64 V2, .slice As nl cs] : Array Value)[i]? := HN.out.cell; clear hN1 hg1 hs1) | (refine wl_store_blk rfl 32 (.tmp 8) (.tmp 40) rfl (w.heap.size + 1) 32 #[.int .i64 0, .int .i64 0, .int .i64 0, .int .i64 0, .slice none 0 0] #[.int .i64 t, .int .i64 V0, .int .i64 V1, .int .i64 V2, .slice As nl cs] rfl rfl HD.out.res rfl szS (by simp [Value.oneCell']) ?_; intro w7 hR5 hg5 hs5))
          have hl5 : ∀ i, w7.cell? ⟨w.heap.size + 1, i, none⟩ = (#[.int .i64 t, .int .i64 V0, .int .i64 V1, .int .i64 V2, .slice As nl cs] : Array Value)[i]? := hR5.cell
          have HB7 := Lib.hid (HD.out.bel.grown hg5 HD.out.bel.size (by intro k hk; cases hk; exact Nat.le_succ _))
          have HO7 := Lib.hid (HO.out.grown hg5 (.inr (HO.out.ne_blk HD.out.res (by decide)).symm))
          exact bodyPost_ret (v := .tuple #[.agg #[.int .i64 t, .int .i64 V0, .int .i64 V1, .int .i64 V2, .slice As nl cs], .int .i64 0]) (by simp [results, Tryd.results19, go_sem, hl5]) rfl (by rw [HST.out]; exact ⟨As, cs, by rw [HNL.out], by rw [HNL.out]; exact HO7.out, HB7.out⟩)
set_option maxRecDepth 100000 in
set_option maxHeartbeats 16000000 in
theorem refTake_any {t V0 V1 V2 last round most : Int} {v0 v1 v2 c : Nat} {A : Option Addr} {l : List Ug} {v : Bool} (w : World) (hv : v = true ↔ RightR ⟨t, v0, v1, v2, A, l, c⟩) (hr : Rw.Wf ⟨t, v0, v1, v2, A, l, c⟩ w) (hV0 : readN v0 = V0) (hV1 : readN v1 = V1) (hV2 : readN v2 = V2) (hl : -1 ≤ last) (hr0 : 0 ≤ round) (hr1 : round ≤ 1099511627776) (hm : 1 ≤ most) (hmm : most ≤ 9223372036854775807) :
    Calls Tryd.prog 20 #[.agg #[.int .i64 t, .float .f64 v0, .float .f64 v1, .float .f64 v2, .slice A l.length c], .int .i64 last, .int .i64 round, .int .i64 most] w (TakeP t V0 V1 V2 (readUses l) w (takeD v (staleB t last round most))) := by
  have HD : Hid (DQ (⟨t, v0, v1, v2, A, l, c⟩ : Rw) w ((w.alloc (.cells #[.int .i64 t, .float .f64 v0, .float .f64 v1, .float .f64 v2, .slice A l.length c] 26)).alloc (.cells #[.int .i64 0, .int .i64 0, .int .i64 0, .int .i64 0, .slice none 0 0] 32))) := DQ.new _ w hr.rds
  have HWF : Hid (Rw.Wf (⟨t, v0, v1, v2, A, l, c⟩ : Rw) ((w.alloc (.cells #[.int .i64 t, .float .f64 v0, .float .f64 v1, .float .f64 v2, .slice A l.length c] 26)).alloc (.cells #[.int .i64 0, .int .i64 0, .int .i64 0, .int .i64 0, .slice none 0 0] 32))) := hr.below HD.out.bel
  have HVV := Lib.hid hv
  have HZ : Hid (((w.alloc (.cells #[.int .i64 t, .float .f64 v0, .float .f64 v1, .float .f64 v2, .slice A l.length c] 26)).alloc (.cells #[.int .i64 0, .int .i64 0, .int .i64 0, .int .i64 0, .slice none 0 0] 32)).heap.size = w.heap.size + 1 + 1) := by show _ = _; simp
  have cr : ∀ i, ((w.alloc (.cells #[.int .i64 t, .float .f64 v0, .float .f64 v1, .float .f64 v2, .slice A l.length c] 26)).alloc (.cells #[.int .i64 0, .int .i64 0, .int .i64 0, .int .i64 0, .slice none 0 0] 32)).cell? ⟨w.heap.size, i, none⟩ = (#[.int .i64 t, .float .f64 v0, .float .f64 v1, .float .f64 v2, .slice A l.length c] : Array Value)[i]? := HD.out.rq.box.cell
  have HBD : Hid ((-1 : Int) ≤ last ∧ 0 ≤ round ∧ round ≤ 1099511627776 ∧ 1 ≤ most ∧ most ≤ 9223372036854775807 ∧ I64 t) := ⟨hl, hr0, hr1, hm, hmm, hr.time⟩
  have ht := hr.time
  clear hr hv hl hr0 hr1 hm hmm
  go_enter Tryd.func20, Tryd.ntmps20
  go_wp2_with fail
  cases v
  · refine (right17V_any HVV.out _ HWF.out).mono ?_; rintro e w1 ⟨rfl, hb⟩
    have HD := Lib.hid (HD.out.below hb)
    clear hb cr
    go_wp2_with (refine wl_store_blk rfl 32 (.tmp 8) (.tmp 13) rfl (w.heap.size + 1) 32 #[.int .i64 0, .int .i64 0, .int .i64 0, .int .i64 0, .slice none 0 0] #[.int .i64 0, .int .i64 0, .int .i64 0, .int .i64 0, .slice none 0 0] rfl rfl HD.out.res rfl szS (by simp [Value.oneCell']) ?_; intro w7 hR5 hg5 hs5)
    have hl5 : ∀ i, w7.cell? ⟨w.heap.size + 1, i, none⟩ = (#[.int .i64 0, .int .i64 0, .int .i64 0, .int .i64 0, .slice none 0 0] : Array Value)[i]? := hR5.cell
    have HB7 := Lib.hid (HD.out.bel.grown hg5 HD.out.bel.size (by intro k hk; cases hk; exact Nat.le_succ _))
    exact bodyPost_ret (v := .tuple #[.agg #[.int .i64 0, .int .i64 0, .int .i64 0, .int .i64 0, .slice none 0 0], .int .i64 1]) (by simp [results, Tryd.results20, go_sem, hl5]) rfl ⟨rfl, HB7.out⟩
  · have HRR := Lib.hid (HVV.out.1 rfl)
    refine (right17V_any HVV.out _ HWF.out).mono ?_; rintro e w1 ⟨rfl, hb⟩
    have HD := Lib.hid (HD.out.below hb)
    have HWF := Lib.hid (HWF.out.below hb)
    clear hb cr
    have cr : ∀ i, w1.cell? ⟨w.heap.size, i, none⟩ = (#[.int .i64 t, .float .f64 v0, .float .f64 v1, .float .f64 v2, .slice A l.length c] : Array Value)[i]? := HD.out.rq.box.cell
    by_cases h1 : t ≤ last
    · have d1 : decide (t ≤ last) = true := decide_eq_true h1
      have HST := Lib.hid (stale_1 (last := last) (round := round) (most := most) h1)
      clear h1
      go_wp2_with (refine wl_store_blk rfl 32 (.tmp 8) (.tmp 32) rfl (w.heap.size + 1) 32 #[.int .i64 0, .int .i64 0, .int .i64 0, .int .i64 0, .slice none 0 0] #[.int .i64 0, .int .i64 0, .int .i64 0, .int .i64 0, .slice none 0 0] rfl rfl HD.out.res rfl szS (by simp [Value.oneCell']) ?_; intro w7 hR5 hg5 hs5)
      have hl5 : ∀ i, w7.cell? ⟨w.heap.size + 1, i, none⟩ = (#[.int .i64 0, .int .i64 0, .int .i64 0, .int .i64 0, .slice none 0 0] : Array Value)[i]? := hR5.cell
      have HB7 := Lib.hid (HD.out.bel.grown hg5 HD.out.bel.size (by intro k hk; cases hk; exact Nat.le_succ _))
      exact bodyPost_ret (v := .tuple #[.agg #[.int .i64 0, .int .i64 0, .int .i64 0, .int .i64 0, .slice none 0 0], .int .i64 8]) (by simp [results, Tryd.results20, go_sem, hl5]) rfl (by rw [HST.out]; exact ⟨rfl, HB7.out⟩)
    · have d1 : decide (t ≤ last) = false := decide_eq_false h1
      by_cases h2 : round < t
      · have d2 : decide (round < t) = true := decide_eq_true h2
        have HST := Lib.hid (stale_2 (last := last) (most := most) h2)
        clear h1 h2
        go_wp2_with (refine wl_store_blk rfl 32 (.tmp 8) (.tmp 32) rfl (w.heap.size + 1) 32 #[.int .i64 0, .int .i64 0, .int .i64 0, .int .i64 0, .slice none 0 0] #[.int .i64 0, .int .i64 0, .int .i64 0, .int .i64 0, .slice none 0 0] rfl rfl HD.out.res rfl szS (by simp [Value.oneCell']) ?_; intro w7 hR5 hg5 hs5)
        have hl5 : ∀ i, w7.cell? ⟨w.heap.size + 1, i, none⟩ = (#[.int .i64 0, .int .i64 0, .int .i64 0, .int .i64 0, .slice none 0 0] : Array Value)[i]? := hR5.cell
        have HB7 := Lib.hid (HD.out.bel.grown hg5 HD.out.bel.size (by intro k hk; cases hk; exact Nat.le_succ _))
        exact bodyPost_ret (v := .tuple #[.agg #[.int .i64 0, .int .i64 0, .int .i64 0, .int .i64 0, .slice none 0 0], .int .i64 8]) (by simp [results, Tryd.results20, go_sem, hl5]) rfl (by rw [HST.out]; exact ⟨rfl, HB7.out⟩)
      · have d2 : decide (round < t) = false := decide_eq_false h2
        have e3 : wrap64 (round - most) = round - most := by have := HBD.out; unfold wrap64; omega
        by_cases h3 : most ≤ round - t
        · have d3 : decide (t ≤ round - most) = true := decide_eq_true (by omega)
          have HST := Lib.hid (stale_3 (last := last) h3)
          clear h1 h2 h3
          go_wp2_with (refine wl_store_blk rfl 32 (.tmp 8) (.tmp 32) rfl (w.heap.size + 1) 32 #[.int .i64 0, .int .i64 0, .int .i64 0, .int .i64 0, .slice none 0 0] #[.int .i64 0, .int .i64 0, .int .i64 0, .int .i64 0, .slice none 0 0] rfl rfl HD.out.res rfl szS (by simp [Value.oneCell']) ?_; intro w7 hR5 hg5 hs5)
          have hl5 : ∀ i, w7.cell? ⟨w.heap.size + 1, i, none⟩ = (#[.int .i64 0, .int .i64 0, .int .i64 0, .int .i64 0, .slice none 0 0] : Array Value)[i]? := hR5.cell
          have HB7 := Lib.hid (HD.out.bel.grown hg5 HD.out.bel.size (by intro k hk; cases hk; exact Nat.le_succ _))
          exact bodyPost_ret (v := .tuple #[.agg #[.int .i64 0, .int .i64 0, .int .i64 0, .int .i64 0, .slice none 0 0], .int .i64 8]) (by simp [results, Tryd.results20, go_sem, hl5]) rfl (by rw [HST.out]; exact ⟨rfl, HB7.out⟩)
        · have d3 : decide (t ≤ round - most) = false := decide_eq_false (by omega)
          have HST := Lib.hid (stale_no h1 h2 h3)
          clear h1 h2 h3
          go_wp2_with fail
          refine (read17_walk _ HWF.out HRR.out.len hV0 hV1 hV2).mono ?_; rintro e w2 ⟨As, cs, rfl, ho, hb⟩
          obtain ⟨nl, hnl⟩ : ∃ n, (readUses l).length = n := ⟨_, rfl⟩
          have HNL := Lib.hid hnl
          rw [hnl] at ho
          rw [hnl]
          have HO := Lib.hid (ho.mono (Nat.le_trans (by omega : w.heap.size ≤ w.heap.size + 1) (Nat.le_of_lt HD.out.res.lt)))
          have HD := Lib.hid (HD.out.below hb)
          clear hnl ho hb cr hV0 hV1 hV2
          go_wp2_with (refine wl_store_blk rfl 32 (.tmp 8) (.tmp 34) rfl (w.heap.size + 1) 32 #[.int .i64 0, .int .i64 0, .int .i64 0, .int .i64 0, .slice none 0 0] #[.int .i64 t, .int .i64 V0, .int .i64 V1, .int .i64 V2, .slice As nl cs] rfl rfl HD.out.res rfl szS (by simp [Value.oneCell']) ?_; intro w7 hR5 hg5 hs5)
          have hl5 : ∀ i, w7.cell? ⟨w.heap.size + 1, i, none⟩ = (#[.int .i64 t, .int .i64 V0, .int .i64 V1, .int .i64 V2, .slice As nl cs] : Array Value)[i]? := hR5.cell
          have HB7 := Lib.hid (HD.out.bel.grown hg5 HD.out.bel.size (by intro k hk; cases hk; exact Nat.le_succ _))
          have HO7 := Lib.hid (HO.out.grown hg5 (.inr (HO.out.ne_blk HD.out.res (by decide)).symm))
          exact bodyPost_ret (v := .tuple #[.agg #[.int .i64 t, .int .i64 V0, .int .i64 V1, .int .i64 V2, .slice As nl cs], .int .i64 0]) (by simp [results, Tryd.results20, go_sem, hl5]) rfl (by rw [HST.out]; exact ⟨As, cs, by rw [HNL.out], by rw [HNL.out]; exact HO7.out, HB7.out⟩)
end Go.Proofs.YtampjkgkiooibaaDoor
