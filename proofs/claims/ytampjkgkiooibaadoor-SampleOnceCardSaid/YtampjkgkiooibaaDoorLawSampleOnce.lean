/- bilgelaw17.SampleOnce: what was taken isn't taken once more; the one that is a round later is, in its round; a greater age bars no more. -/
import Derived.Test.YtampjkgkiooibaaDoorSLaw
namespace Go.Proofs.YtampjkgkiooibaaDoor
open Go.RowKit

theorem stale_not {t last round most : Int} (h : staleB t last round most = false) : last < t ∧ t ≤ round ∧ round - t < most := by
  unfold staleB at h
  simp only [Bool.or_eq_false_iff, decide_eq_false_iff_not] at h
  omega
theorem take_st {r : Rw} {last round most : Int} (hst : staleB r.time last round most = true) (w : World) (hv : true = true ↔ RightR r) (hr : r.Wf w) (hl : -1 ≤ last) (hr0 : 0 ≤ round) (hr1 : round ≤ 1099511627776) (hm : 1 ≤ most) (hmm : most ≤ 9223372036854775807) :
    Calls Tryd.prog 19 #[.agg r.cells, .int .i64 last, .int .i64 round, .int .i64 most] w fun e w' => e = .returned (.tuple #[.agg #[.int .i64 0, .int .i64 0, .int .i64 0, .int .i64 0, .slice none 0 0], .int .i64 8]) ∧ Below w.heap.size w w' := by
  have := take_any w hv hr rfl rfl rfl hl hr0 hr1 hm hmm
  rw [hst] at this
  exact this
def GivesY (t x0 x1 x2 : Int) (nl : Nat) (w : World) (e : Ending) (w' : World) : Prop := ∃ A c, e = .returned (.tuple #[.agg #[.int .i64 t, .int .i64 x0, .int .i64 x1, .int .i64 x2, .slice A nl c], .int .i64 0]) ∧ Below w.heap.size w w'
theorem take_yes {r : Rw} {x0 x1 x2 last round most : Int} {nl : Nat} (hst : staleB r.time last round most = false) (hn : (readUses r.uses).length = nl) (w : World) (hv : true = true ↔ RightR r) (hr : r.Wf w) (hx : readN r.v0 = x0 ∧ readN r.v1 = x1 ∧ readN r.v2 = x2) (hl : -1 ≤ last) (hr0 : 0 ≤ round) (hr1 : round ≤ 1099511627776) (hm : 1 ≤ most) (hmm : most ≤ 9223372036854775807) :
    Calls Tryd.prog 19 #[.agg r.cells, .int .i64 last, .int .i64 round, .int .i64 most] w (GivesY r.time x0 x1 x2 nl w) := by
  have := take_any w hv hr hx.1 hx.2.1 hx.2.2 hl hr0 hr1 hm hmm
  rw [hst] at this
  exact this.mono fun e w' ⟨A, c, he, _, hb⟩ => ⟨A, c, by rw [he, hn], hb⟩
set_option maxRecDepth 100000 in
set_option maxHeartbeats 16000000 in
theorem sampleOnce_any {t : Int} {v0 v1 v2 c : Nat} {A : Option Addr} {l : List Ug} (last round most later : Int) (w : World) (hr : Rw.Wf ⟨t, v0, v1, v2, A, l, c⟩ w) (hl : I64 last) (hrd : I64 round) (hmo : I64 most) (hla : 0 ≤ later ∧ later ≤ 65535) :
    Calls Tryd.prog 6 #[.agg #[.int .i64 t, .float .f64 v0, .float .f64 v1, .float .f64 v2, .slice A l.length c], .int .i64 last, .int .i64 round, .int .i64 most, .int .u16 later] w fun e w' => e = .returned (.bool true) ∧ Below w.heap.size w w' := by
  have mixed : Tryd.prog.follows Departure.mixedOrders = true := by kernel_rfl
  have HQ : Hid (RQ (⟨t, v0, v1, v2, A, l, c⟩ : Rw) w (w.alloc (.cells #[.int .i64 t, .float .f64 v0, .float .f64 v1, .float .f64 v2, .slice A l.length c] 26))) := RQ.new _ w hr.rds
  have HWF := Lib.hid hr
  have hlc := hr.len
  have hcm := hr.cap
  simp only at hlc hcm
  have ht := hr.time
  clear hr
  have HNB := Lib.hid (And.intro hl (And.intro hrd (And.intro hmo ht)))
  have cr : ∀ i, (w.alloc (.cells #[.int .i64 t, .float .f64 v0, .float .f64 v1, .float .f64 v2, .slice A l.length c] 26)).cell? ⟨w.heap.size, i, none⟩ = (#[.int .i64 t, .float .f64 v0, .float .f64 v1, .float .f64 v2, .slice A l.length c] : Array Value)[i]? := HQ.out.box.cell
  go_enter Tryd.func6, Tryd.ntmps6
  go_wp2_with fail
  refine (awake17_any _).mono ?_; rintro e w1 ⟨rfl, hb⟩
  have HQ := Lib.hid (HQ.out.below hb)
  clear hb cr
  have cr : ∀ i, w1.cell? ⟨w.heap.size, i, none⟩ = (#[.int .i64 t, .float .f64 v0, .float .f64 v1, .float .f64 v2, .slice A l.length c] : Array Value)[i]? := HQ.out.box.cell
  go_wp2_with fail
  obtain ⟨vf, hvf⟩ : ∃ v, fewR l = v := ⟨_, rfl⟩
  refine (few17V_any (r := ⟨t, v0, v1, v2, A, l, c⟩) hvf _ (HWF.out.below HQ.out.bel).rds (by show l.length ≤ _; omega) HWF.out.ids).mono ?_; rintro e w2 ⟨rfl, hb⟩
  have HQ := Lib.hid (HQ.out.below hb)
  have HFW := Lib.hid hvf
  clear hb cr hvf
  cases vf
  · clear HFW hl hrd hmo hla
    go_wp2_with fail
    refine (awake17_any _).mono ?_; rintro e w9 ⟨rfl, hb⟩
    have HQ := Lib.hid (HQ.out.below hb)
    clear hb
    go_wp2_with fail
    go_ret
    exact ⟨rfl, HQ.out.bel⟩
  · by_cases h1 : last < -1
    · have dh1 : decide (last < -1) = true := decide_eq_true h1
      clear h1
      go_wp2_with fail
      refine (awake17_any _).mono ?_; rintro e w9 ⟨rfl, hb⟩
      have HQ := Lib.hid (HQ.out.below hb)
      clear hb
      go_wp2_with fail
      go_ret
      exact ⟨rfl, HQ.out.bel⟩
    · have dh1 : decide (last < -1) = false := decide_eq_false h1
      by_cases h2 : round < 0
      · have dh2 : decide (round < 0) = true := decide_eq_true h2
        clear h2
        go_wp2_with fail
        refine (awake17_any _).mono ?_; rintro e w9 ⟨rfl, hb⟩
        have HQ := Lib.hid (HQ.out.below hb)
        clear hb
        go_wp2_with fail
        go_ret
        exact ⟨rfl, HQ.out.bel⟩
      · have dh2 : decide (round < 0) = false := decide_eq_false h2
        by_cases h3 : 1099511627776 < round
        · have dh3 : decide (1099511627776 < round) = true := decide_eq_true h3
          clear h3
          go_wp2_with fail
          refine (awake17_any _).mono ?_; rintro e w9 ⟨rfl, hb⟩
          have HQ := Lib.hid (HQ.out.below hb)
          clear hb
          go_wp2_with fail
          go_ret
          exact ⟨rfl, HQ.out.bel⟩
        · have dh3 : decide (1099511627776 < round) = false := decide_eq_false h3
          by_cases h4 : most < 1
          · have dh4 : decide (most < 1) = true := decide_eq_true h4
            clear h4
            go_wp2_with fail
            refine (awake17_any _).mono ?_; rintro e w9 ⟨rfl, hb⟩
            have HQ := Lib.hid (HQ.out.below hb)
            clear hb
            go_wp2_with fail
            go_ret
            exact ⟨rfl, HQ.out.bel⟩
          · have dh4 : decide (most < 1) = false := decide_eq_false h4
            have hl140 := few_len HFW.out
            have HCO : Hid ((-1 : Int) ≤ last ∧ 0 ≤ round ∧ round ≤ 1099511627776 ∧ 1 ≤ most ∧ most ≤ 9223372036854775807) := ⟨by omega, by omega, by omega, by omega, hmo.2⟩
            obtain ⟨v, hv⟩ := exRight (⟨t, v0, v1, v2, A, l, c⟩ : Rw)
            have HVV := Lib.hid hv
            clear hv
            have cr : ∀ i, w2.cell? ⟨w.heap.size, i, none⟩ = (#[.int .i64 t, .float .f64 v0, .float .f64 v1, .float .f64 v2, .slice A l.length c] : Array Value)[i]? := HQ.out.box.cell
            cases v
            · clear h1 h2 h3 h4 hl hrd hmo hla
              go_wp2_with fail
              refine (take_any _ HVV.out (HWF.out.below HQ.out.bel) rfl rfl rfl HCO.out.1 HCO.out.2.1 HCO.out.2.2.1 HCO.out.2.2.2.1 HCO.out.2.2.2.2).mono ?_; rintro e w3 ⟨rfl, hb⟩
              have HQ := Lib.hid (HQ.out.below hb)
              have HQ := Lib.hid (HQ.out.alloc (.cells #[.int .i64 0, .int .i64 0, .int .i64 0, .int .i64 0, .slice none 0 0] 32))
              clear hb cr
              go_wp2_with fail
              go_ret
              exact ⟨rfl, HQ.out.bel⟩
            · have HRT : Hid (RightR (⟨t, v0, v1, v2, A, l, c⟩ : Rw)) := HVV.out.1 rfl
              clear HVV
              cases hst : staleB t last round most
              · have HST := Lib.hid hst
                obtain ⟨g1, g2, g3⟩ := stale_not hst
                obtain ⟨x0, x1, x2, HX3⟩ : ∃ x y z, Hid (readN v0 = x ∧ readN v1 = y ∧ readN v2 = z) := ⟨_, _, _, ⟨rfl, rfl, rfl⟩⟩
                obtain ⟨nl, hnl⟩ : ∃ n, (readUses l).length = n := ⟨_, rfl⟩
                have HNL := Lib.hid hnl
                obtain ⟨tt, htt⟩ : ∃ x, round + later = x := ⟨_, rfl⟩
                have b1 : 0 ≤ tt := by omega
                have b2 : t ≤ tt := by omega
                have b3 : tt ≤ 1099511693312 := by omega
                have b4 : 0 ≤ t := by omega
                have b5 : 0 ≤ later := hla.1
                have b6 : later ≤ 65535 := hla.2
                have b7 : 0 ≤ round := by omega
                have b8 : round ≤ 1099511627776 := by omega
                have dt1 : decide (last < t) = true := decide_eq_true (by omega)
                have dt2 : decide (t ≤ round) = true := decide_eq_true (by omega)
                have HG := Lib.hid (And.intro g1 (And.intro g2 g3))
                clear h1 h2 h3 h4 hl hrd hmo hla hst g1 g2 g3 hnl
                go_wp2_with fail
                refine (take_yes (r := (⟨t, v0, v1, v2, A, l, c⟩ : Rw)) HST.out HNL.out _ ⟨fun _ => HRT.out, fun _ => rfl⟩ (HWF.out.below HQ.out.bel) HX3.out HCO.out.1 HCO.out.2.1 HCO.out.2.2.1 HCO.out.2.2.2.1 HCO.out.2.2.2.2).mono ?_; rintro e w3 ⟨A1, c1, rfl, hb⟩
                have HQ := Lib.hid (HQ.out.below hb)
                have HN0 := Lib.hid (Blk.new w3 32 #[.int .i64 0, .int .i64 0, .int .i64 0, .int .i64 0, .slice none 0 0])
                clear hb cr
                by_cases hbig : 1099511627775 < tt
                · have d1 : decide ((1099511627775 : Int) < tt) = true := decide_eq_true hbig
                  clear hbig
                  go_wp2_with (refine wl_store_blk rfl 32 (.tmp 11) (.tmp 53) rfl w3.heap.size 32 #[.int .i64 0, .int .i64 0, .int .i64 0, .int .i64 0, .slice none 0 0] #[.int .i64 t, .int .i64 x0, .int .i64 x1, .int .i64 x2, .slice A1 nl c1] rfl rfl HN0.out rfl szS (by simp [Value.oneCell']) ?_; intro w4 hN1 hg1 hs1; have HBF := Lib.hid (below_fresh hg1); have HQ := Lib.hid (HQ.out.below HBF.out); have cr : ∀ i, w4.cell? ⟨w.heap.size, i, none⟩ = (#[.int .i64 t, .float .f64 v0, .float .f64 v1, .float .f64 v2, .slice A l.length c] : Array Value)[i]? := HQ.out.box.cell; clear hN1 hg1 hs1)
                  go_ret
                  exact ⟨rfl, HQ.out.bel⟩
                · have HQ3 := Lib.hid HQ.out.box.lt
                  have d1 : decide ((1099511627775 : Int) < tt) = false := decide_eq_false hbig
                  have b9 : tt ≤ 1099511627775 := by omega
                  have b10 : tt + 1 ≤ 1099511627776 := by omega
                  have HBB := Lib.hid (And.intro b1 (And.intro b2 (And.intro b4 b9)))
                  clear hbig
                  go_wp2_with (refine wl_store_blk rfl 32 (.tmp 11) (.tmp 53) rfl w3.heap.size 32 #[.int .i64 0, .int .i64 0, .int .i64 0, .int .i64 0, .slice none 0 0] #[.int .i64 t, .int .i64 x0, .int .i64 x1, .int .i64 x2, .slice A1 nl c1] rfl rfl HN0.out rfl szS (by simp [Value.oneCell']) ?_; intro w4 hN1 hg1 hs1; have HBF := Lib.hid (below_fresh hg1); have HQ := Lib.hid (HQ.out.below HBF.out); have HS1 := Lib.hid hN1; have cr : ∀ i, w4.cell? ⟨w.heap.size, i, none⟩ = (#[.int .i64 t, .float .f64 v0, .float .f64 v1, .float .f64 v2, .slice A l.length c] : Array Value)[i]? := HQ.out.box.cell; clear hN1 hg1 hs1; have ks : ∀ i, w4.cell? ⟨w3.heap.size, i, none⟩ = (#[.int .i64 t, .int .i64 x0, .int .i64 x1, .int .i64 x2, .slice A1 nl c1] : Array Value)[i]? := HS1.out.cell)
                  have HLT1 := Lib.hid (show w.heap.size < w3.heap.size from HQ3.out)
                  clear HN0 HBF
                  generalize w3.heap.size = n1 at *
                  refine (take_st (stale_1 (Int.le_refl t)) _ ⟨fun _ => HRT.out, fun _ => rfl⟩ (HWF.out.below HQ.out.bel) (by have := HBB.out; omega) HBB.out.1 (by have := HBB.out; omega) (by decide) (by decide)).mono ?_; rintro e w5 ⟨rfl, hb⟩
                  have HQ := Lib.hid (HQ.out.below hb)
                  have HS1 := Lib.hid (HS1.out.belowAll hb)
                  have HQ := Lib.hid (HQ.out.alloc (.cells #[.int .i64 0, .int .i64 0, .int .i64 0, .int .i64 0, .slice none 0 0] 32))
                  have HS1 := Lib.hid (HS1.out.alloc (.cells #[.int .i64 0, .int .i64 0, .int .i64 0, .int .i64 0, .slice none 0 0] 32))
                  clear hb cr ks
                  have cr : ∀ i, (w5.alloc (.cells #[.int .i64 0, .int .i64 0, .int .i64 0, .int .i64 0, .slice none 0 0] 32)).cell? ⟨w.heap.size, i, none⟩ = (#[.int .i64 t, .float .f64 v0, .float .f64 v1, .float .f64 v2, .slice A l.length c] : Array Value)[i]? := HQ.out.box.cell
                  have ks : ∀ i, (w5.alloc (.cells #[.int .i64 0, .int .i64 0, .int .i64 0, .int .i64 0, .slice none 0 0] 32)).cell? ⟨n1, i, none⟩ = (#[.int .i64 t, .int .i64 x0, .int .i64 x1, .int .i64 x2, .slice A1 nl c1] : Array Value)[i]? := HS1.out.cell
                  go_wp2_with fail
                  refine (take_yes (stale_no (t := t) (by have := HG.out; omega) (by have := HG.out; omega) (by have := HG.out; have := HBB.out; have := HCO.out; omega)) HNL.out _ ⟨fun _ => HRT.out, fun _ => rfl⟩ (HWF.out.below HQ.out.bel) HX3.out HCO.out.1 HCO.out.2.1 HCO.out.2.2.1 (by decide) (by decide)).mono ?_; rintro e w6 ⟨A2, c2, rfl, hb⟩
                  have HQ := Lib.hid (HQ.out.below hb)
                  have HS1 := Lib.hid (HS1.out.belowAll hb)
                  have HN0 := Lib.hid (Blk.new w6 32 #[.int .i64 0, .int .i64 0, .int .i64 0, .int .i64 0, .slice none 0 0])
                  clear hb cr ks
                  go_wp2_with (first | (refine wl_store_blk rfl 32 (.tmp 16) (.tmp 76) rfl w6.heap.size 32 #[.int .i64 0, .int .i64 0, .int .i64 0, .int .i64 0, .slice none 0 0] #[.int .i64 t, .int .i64 x0, .int .i64 x1, .int .i64 x2, .slice A2 nl c2] rfl rfl HN0.out rfl szS (by simp [Value.oneCell']) ?_; intro w7 hN1 hg1 hs1; have HBF := Lib.hid (below_fresh hg1); have HQ := Lib.hid (HQ.out.below HBF.out); have HS1 := Lib.hid (HS1.out.belowAll HBF.out); have HNR := Lib.hid (Blk.new w7 26 #[.int .i64 0, .float .f64 0, .float .f64 0, .float .f64 0, .slice none 0 0]); have cr : ∀ i, w7.cell? ⟨w.heap.size, i, none⟩ = (#[.int .i64 t, .float .f64 v0, .float .f64 v1, .float .f64 v2, .slice A l.length c] : Array Value)[i]? := HQ.out.box.cell; have ks : ∀ i, w7.cell? ⟨n1, i, none⟩ = (#[.int .i64 t, .int .i64 x0, .int .i64 x1, .int .i64 x2, .slice A1 nl c1] : Array Value)[i]? := HS1.out.cell; clear hN1 hg1 hs1) | (refine wl_store_blk rfl 26 (.tmp 18) (.tmp 78) rfl w7.heap.size 26 #[.int .i64 0, .float .f64 0, .float .f64 0, .float .f64 0, .slice none 0 0] #[.int .i64 t, .float .f64 v0, .float .f64 v1, .float .f64 v2, .slice A l.length c] rfl rfl HNR.out rfl szR (by simp [Value.oneCell']) ?_; intro w8 hN1 hg1 hs1; clear cr ks; have HBF2 := Lib.hid (below_fresh hg1); have HLX := Lib.hid (Nat.lt_of_lt_of_le HQ.out.box.lt (Nat.le_refl _)); have HLS := Lib.hid HS1.out.lt; have HQ := Lib.hid ((HQ.out.below HBF2.out).far (a := ⟨w7.heap.size, 0, none⟩) HLX.out (.int .i64 (tt + 1))); have HS1 := Lib.hid ((HS1.out.belowAll HBF2.out).far (p := ⟨w7.heap.size, 0, none⟩) (Nat.ne_of_lt HLS.out) (.int .i64 (tt + 1))); have HX : Hid (Blk (w8.setCell ⟨w7.heap.size, 0, none⟩ (.int .i64 (tt + 1))) w7.heap.size 26 #[.int .i64 (tt + 1), .float .f64 v0, .float .f64 v1, .float .f64 v2, .slice A l.length c]) := Lib.hid (by have h := hN1.set_ 0 (.int .i64 (tt + 1)); simpa using h); have c0 : w8.cell? ⟨w7.heap.size, 0, none⟩ = some (.int .i64 t) := hN1.cell 0; have f0 : w8.frozen? ⟨w7.heap.size, 0, none⟩ = false := hN1.frozen 0; have cr : ∀ i, (w8.setCell ⟨w7.heap.size, 0, none⟩ (.int .i64 (tt + 1))).cell? ⟨w.heap.size, i, none⟩ = (#[.int .i64 t, .float .f64 v0, .float .f64 v1, .float .f64 v2, .slice A l.length c] : Array Value)[i]? := HQ.out.box.cell; have ks : ∀ i, (w8.setCell ⟨w7.heap.size, 0, none⟩ (.int .i64 (tt + 1))).cell? ⟨n1, i, none⟩ = (#[.int .i64 t, .int .i64 x0, .int .i64 x1, .int .i64 x2, .slice A1 nl c1] : Array Value)[i]? := HS1.out.cell; have kx : ∀ i, (w8.setCell ⟨w7.heap.size, 0, none⟩ (.int .i64 (tt + 1))).cell? ⟨w7.heap.size, i, none⟩ = (#[.int .i64 (tt + 1), .float .f64 v0, .float .f64 v1, .float .f64 v2, .slice A l.length c] : Array Value)[i]? := HX.out.cell; clear hN1 hg1 hs1))
                  clear HN0 HBF HNR HBF2 HLX HLS c0 f0
                  generalize w7.heap.size = nx at *
                  generalize w8.setCell ⟨nx, 0, none⟩ (.int .i64 (tt + 1)) = w9 at *
                  have HVN : Hid (RightR (⟨tt + 1, v0, v1, v2, A, l, c⟩ : Rw)) := ⟨HRT.out.len, HRT.out.k, HRT.out.ok⟩
                  have HWN : Hid (Rw.Wf (⟨tt + 1, v0, v1, v2, A, l, c⟩ : Rw) w) := ⟨HWF.out.h0, HWF.out.h1, HWF.out.h2, ⟨by show _ ≤ tt + 1; omega, by show tt + 1 ≤ _; omega⟩, HWF.out.rds, HWF.out.us, HWF.out.ids, HWF.out.len, HWF.out.cap⟩
                  refine (take_yes (stale_no (t := tt + 1) (by have := HBB.out; omega) (by omega) (by omega)) HNL.out _ ⟨fun _ => HVN.out, fun _ => rfl⟩ (HWN.out.below HQ.out.bel) HX3.out (by have := HBB.out; omega) (by have := HBB.out; omega) (by have := HBB.out; omega) (by decide) (by decide)).mono ?_; rintro e wa ⟨A4, c4, rfl, hb⟩
                  have HQ := Lib.hid (HQ.out.below hb)
                  have HS1 := Lib.hid (HS1.out.belowAll hb)
                  have HX := Lib.hid (HX.out.belowAll hb)
                  have HN0 := Lib.hid (Blk.new wa 32 #[.int .i64 0, .int .i64 0, .int .i64 0, .int .i64 0, .slice none 0 0])
                  clear hb cr ks kx
                  go_wp2_with (refine wl_store_blk rfl 32 (.tmp 19) (.tmp 89) rfl wa.heap.size 32 #[.int .i64 0, .int .i64 0, .int .i64 0, .int .i64 0, .slice none 0 0] #[.int .i64 (tt + 1), .int .i64 x0, .int .i64 x1, .int .i64 x2, .slice A4 nl c4] rfl rfl HN0.out rfl szS (by simp [Value.oneCell']) ?_; intro wb hN1 hg1 hs1; have HBF := Lib.hid (below_fresh hg1); have HQ := Lib.hid (HQ.out.below HBF.out); have HS1 := Lib.hid (HS1.out.belowAll HBF.out); have HX := Lib.hid (HX.out.belowAll HBF.out); have cr : ∀ i, wb.cell? ⟨w.heap.size, i, none⟩ = (#[.int .i64 t, .float .f64 v0, .float .f64 v1, .float .f64 v2, .slice A l.length c] : Array Value)[i]? := HQ.out.box.cell; have ks : ∀ i, wb.cell? ⟨n1, i, none⟩ = (#[.int .i64 t, .int .i64 x0, .int .i64 x1, .int .i64 x2, .slice A1 nl c1] : Array Value)[i]? := HS1.out.cell; have kx : ∀ i, wb.cell? ⟨nx, i, none⟩ = (#[.int .i64 (tt + 1), .float .f64 v0, .float .f64 v1, .float .f64 v2, .slice A l.length c] : Array Value)[i]? := HX.out.cell; clear hN1 hg1 hs1)
                  clear HN0 HBF
                  refine (take_st (stale_2 (t := tt + 1) (by omega)) _ ⟨fun _ => HVN.out, fun _ => rfl⟩ (HWN.out.below HQ.out.bel) (by have := HBB.out; omega) HBB.out.1 (by have := HBB.out; omega) (by decide) (by decide)).mono ?_; rintro e wc ⟨rfl, hb⟩
                  have HQ := Lib.hid (HQ.out.below hb)
                  have HS1 := Lib.hid (HS1.out.belowAll hb)
                  have HX := Lib.hid (HX.out.belowAll hb)
                  have HQ := Lib.hid (HQ.out.alloc (.cells #[.int .i64 0, .int .i64 0, .int .i64 0, .int .i64 0, .slice none 0 0] 32))
                  have HS1 := Lib.hid (HS1.out.alloc (.cells #[.int .i64 0, .int .i64 0, .int .i64 0, .int .i64 0, .slice none 0 0] 32))
                  have HX := Lib.hid (HX.out.alloc (.cells #[.int .i64 0, .int .i64 0, .int .i64 0, .int .i64 0, .slice none 0 0] 32))
                  clear hb cr ks kx
                  have cr : ∀ i, (wc.alloc (.cells #[.int .i64 0, .int .i64 0, .int .i64 0, .int .i64 0, .slice none 0 0] 32)).cell? ⟨w.heap.size, i, none⟩ = (#[.int .i64 t, .float .f64 v0, .float .f64 v1, .float .f64 v2, .slice A l.length c] : Array Value)[i]? := HQ.out.box.cell
                  have ks : ∀ i, (wc.alloc (.cells #[.int .i64 0, .int .i64 0, .int .i64 0, .int .i64 0, .slice none 0 0] 32)).cell? ⟨n1, i, none⟩ = (#[.int .i64 t, .int .i64 x0, .int .i64 x1, .int .i64 x2, .slice A1 nl c1] : Array Value)[i]? := HS1.out.cell
                  go_wp2_with fail
                  go_ret
                  exact ⟨rfl, HQ.out.bel⟩
              · have HST := Lib.hid hst
                clear h1 h2 h3 h4 hl hrd hmo hla hst
                go_wp2_with fail
                refine (take_st (r := (⟨t, v0, v1, v2, A, l, c⟩ : Rw)) HST.out _ ⟨fun _ => HRT.out, fun _ => rfl⟩ (HWF.out.below HQ.out.bel) HCO.out.1 HCO.out.2.1 HCO.out.2.2.1 HCO.out.2.2.2.1 HCO.out.2.2.2.2).mono ?_; rintro e w3 ⟨rfl, hb⟩
                have HQ := Lib.hid (HQ.out.below hb)
                have HQ := Lib.hid (HQ.out.alloc (.cells #[.int .i64 0, .int .i64 0, .int .i64 0, .int .i64 0, .slice none 0 0] 32))
                clear hb cr
                go_wp2_with fail
                go_ret
                exact ⟨rfl, HQ.out.bel⟩
end Go.Proofs.YtampjkgkiooibaaDoor
