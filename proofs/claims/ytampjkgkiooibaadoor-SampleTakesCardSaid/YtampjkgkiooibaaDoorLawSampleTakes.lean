/- bilgelaw17.SampleTakes: of whatever raw sample, last Time, round and age: the sample, or why it isn't taken, as the document says. -/
import Derived.Test.YtampjkgkiooibaaDoorSLaw
namespace Go.Proofs.YtampjkgkiooibaaDoor
open Go.RowKit

set_option maxRecDepth 100000 in
set_option maxHeartbeats 16000000 in
theorem sampleTakes_any {t : Int} {v0 v1 v2 c : Nat} {A : Option Addr} {l : List Ug} (last round most : Int) (w : World) (hr : Rw.Wf ⟨t, v0, v1, v2, A, l, c⟩ w) (hl : I64 last) (hrd : I64 round) (hmo : I64 most) :
    Calls Tryd.prog 4 #[.agg #[.int .i64 t, .float .f64 v0, .float .f64 v1, .float .f64 v2, .slice A l.length c], .int .i64 last, .int .i64 round, .int .i64 most] w fun e w' => e = .returned (.bool true) ∧ Below w.heap.size w w' := by
  have mixed : Tryd.prog.follows Departure.mixedOrders = true := by kernel_rfl
  have HQ : Hid (RQ (⟨t, v0, v1, v2, A, l, c⟩ : Rw) w (w.alloc (.cells #[.int .i64 t, .float .f64 v0, .float .f64 v1, .float .f64 v2, .slice A l.length c] 26))) := RQ.new _ w hr.rds
  have HWF := Lib.hid hr
  have hlc := hr.len
  have hcm := hr.cap
  simp only at hlc hcm
  have ht := hr.time
  clear hr
  have HNB := Lib.hid (And.intro hl (And.intro hrd (And.intro hmo ht)))
  have cr : ∀ i, (w.alloc (.cells #[.int .i64 t, .float .f64 v0, .float .f64 v1, .float .f64 v2, .slice A l.length c] 26)).cell? ⟨w.heap.size, i, none⟩ = (#[.int .i64 t, .float .f64 v0, .float .f64 v1, .float .f64 v2, .slice A l.length c] : Array Value)[i]? := HQ.out.box.cell
  go_enter Tryd.func4, Tryd.ntmps4
  go_wp2_with fail
  refine (awake17_any _).mono ?_; rintro e w1 ⟨rfl, hb⟩
  have HQ := Lib.hid (HQ.out.below hb)
  clear hb cr
  have cr : ∀ i, w1.cell? ⟨w.heap.size, i, none⟩ = (#[.int .i64 t, .float .f64 v0, .float .f64 v1, .float .f64 v2, .slice A l.length c] : Array Value)[i]? := HQ.out.box.cell
  go_wp2_with fail
  obtain ⟨vf, hvf⟩ : ∃ v, fewR l = v := ⟨_, rfl⟩
  refine (few17V_any (r := ⟨t, v0, v1, v2, A, l, c⟩) hvf _ (HWF.out.below HQ.out.bel).rds (by show l.length ≤ _; omega) HWF.out.ids).mono ?_; rintro e w2 ⟨rfl, hb⟩
  have HQ := Lib.hid (HQ.out.below hb)
  have HFW := Lib.hid hvf
  clear hb cr hvf
  cases vf
  · clear HFW hl hrd hmo
    go_wp2_with fail
    refine (awake17_any _).mono ?_; rintro e w9 ⟨rfl, hb⟩
    have HQ := Lib.hid (HQ.out.below hb)
    clear hb
    go_wp2_with fail
    go_ret
    exact ⟨rfl, HQ.out.bel⟩
  · by_cases h1 : last < -1
    · have dh1 : decide (last < -1) = true := decide_eq_true h1
      clear h1
      go_wp2_with fail
      refine (awake17_any _).mono ?_; rintro e w9 ⟨rfl, hb⟩
      have HQ := Lib.hid (HQ.out.below hb)
      clear hb
      go_wp2_with fail
      go_ret
      exact ⟨rfl, HQ.out.bel⟩
    · have dh1 : decide (last < -1) = false := decide_eq_false h1
      by_cases h2 : round < 0
      · have dh2 : decide (round < 0) = true := decide_eq_true h2
        clear h2
        go_wp2_with fail
        refine (awake17_any _).mono ?_; rintro e w9 ⟨rfl, hb⟩
        have HQ := Lib.hid (HQ.out.below hb)
        clear hb
        go_wp2_with fail
        go_ret
        exact ⟨rfl, HQ.out.bel⟩
      · have dh2 : decide (round < 0) = false := decide_eq_false h2
        by_cases h3 : 1099511627776 < round
        · have dh3 : decide (1099511627776 < round) = true := decide_eq_true h3
          clear h3
          go_wp2_with fail
          refine (awake17_any _).mono ?_; rintro e w9 ⟨rfl, hb⟩
          have HQ := Lib.hid (HQ.out.below hb)
          clear hb
          go_wp2_with fail
          go_ret
          exact ⟨rfl, HQ.out.bel⟩
        · have dh3 : decide (1099511627776 < round) = false := decide_eq_false h3
          by_cases h4 : most < 1
          · have dh4 : decide (most < 1) = true := decide_eq_true h4
            clear h4
            go_wp2_with fail
            refine (awake17_any _).mono ?_; rintro e w9 ⟨rfl, hb⟩
            have HQ := Lib.hid (HQ.out.below hb)
            clear hb
            go_wp2_with fail
            go_ret
            exact ⟨rfl, HQ.out.bel⟩
          · have dh4 : decide (most < 1) = false := decide_eq_false h4
            have hl140 := few_len HFW.out
            have HCO : Hid ((-1 : Int) ≤ last ∧ 0 ≤ round ∧ round ≤ 1099511627776 ∧ 1 ≤ most ∧ most ≤ 9223372036854775807) := ⟨by omega, by omega, by omega, by omega, hmo.2⟩
            clear h1 h2 h3 h4 hl hrd hmo
            obtain ⟨v, hv⟩ := exRight (⟨t, v0, v1, v2, A, l, c⟩ : Rw)
            have HVV := Lib.hid hv
            obtain ⟨q, hq⟩ : ∃ q, tkOf t (readN v0) (readN v1) (readN v2) (readUses l) (takeD v (staleB t last round most)) = q := ⟨_, rfl⟩
            have hql := tkOf_len (t := t) (V0 := readN v0) (V1 := readN v1) (V2 := readN v2) (takeD v (staleB t last round most)) hl140
            rw [hq] at hql
            obtain ⟨qt, q0, q1, q2, QL, qk⟩ := q
            have HQQ := Lib.hid hq
            simp only at hql
            clear hv hq
            have cr : ∀ i, w2.cell? ⟨w.heap.size, i, none⟩ = (#[.int .i64 t, .float .f64 v0, .float .f64 v1, .float .f64 v2, .slice A l.length c] : Array Value)[i]? := HQ.out.box.cell
            go_wp2_with fail
            refine (takeG (r := (⟨t, v0, v1, v2, A, l, c⟩ : Rw)) _ HVV.out (HWF.out.below HQ.out.bel) HCO.out.1 HCO.out.2.1 HCO.out.2.2.1 HCO.out.2.2.2.1 HCO.out.2.2.2.2 HQQ.out).mono ?_; rintro e w3 ⟨A1, c1, rfl, ho, hb⟩
            have HQ := Lib.hid (HQ.out.below hb)
            have HU1 := Lib.hid ho.toRds
            have HN0 := Lib.hid (Blk.new w3 32 #[.int .i64 0, .int .i64 0, .int .i64 0, .int .i64 0, .slice none 0 0])
            clear ho hb cr
            go_wp2_with (refine wl_store_blk rfl 32 (.tmp 9) (.tmp 43) rfl w3.heap.size 32 #[.int .i64 0, .int .i64 0, .int .i64 0, .int .i64 0, .slice none 0 0] #[.int .i64 qt, .int .i64 q0, .int .i64 q1, .int .i64 q2, .slice A1 QL.length c1] rfl rfl HN0.out rfl szS (by simp [Value.oneCell']) ?_; intro w4 hN1 hg1 hs1; have HS1 := Lib.hid hN1; have HBF := Lib.hid (below_fresh hg1); have HQ := Lib.hid (HQ.out.below HBF.out); have HU1 := Lib.hid (HU1.out.below HBF.out); have cr : ∀ i, w4.cell? ⟨w.heap.size, i, none⟩ = (#[.int .i64 t, .float .f64 v0, .float .f64 v1, .float .f64 v2, .slice A l.length c] : Array Value)[i]? := HQ.out.box.cell; clear hN1 hg1 hs1)
            clear HN0 HBF
            refine (refTakeG (r := (⟨t, v0, v1, v2, A, l, c⟩ : Rw)) _ HVV.out (HWF.out.below HQ.out.bel) HCO.out.1 HCO.out.2.1 HCO.out.2.2.1 HCO.out.2.2.2.1 HCO.out.2.2.2.2 HQQ.out).mono ?_; rintro e w5 ⟨A2, c2, rfl, ho, hb⟩
            have HQ := Lib.hid (HQ.out.below hb)
            have HU1 := Lib.hid (HU1.out.below hb)
            have HS1 := Lib.hid (HS1.out.belowAll hb)
            have HU2 := Lib.hid ho.toRds
            have HN0 := Lib.hid (Blk.new w5 32 #[.int .i64 0, .int .i64 0, .int .i64 0, .int .i64 0, .slice none 0 0])
            clear ho hb cr
            have dk : (qk == qk) = true := by simp
            go_wp2_with (refine wl_store_blk rfl 32 (.tmp 11) (.tmp 51) rfl w5.heap.size 32 #[.int .i64 0, .int .i64 0, .int .i64 0, .int .i64 0, .slice none 0 0] #[.int .i64 qt, .int .i64 q0, .int .i64 q1, .int .i64 q2, .slice A2 QL.length c2] rfl rfl HN0.out rfl szS (by simp [Value.oneCell']) ?_; intro w6 hN1 hg1 hs1; have HS2 := Lib.hid hN1; have HBF := Lib.hid (below_fresh hg1); have HQ := Lib.hid (HQ.out.below HBF.out); have HU1 := Lib.hid (HU1.out.below HBF.out); have HS1 := Lib.hid (HS1.out.belowAll HBF.out); have HU2 := Lib.hid (HU2.out.below HBF.out); have k1 : ∀ i, w6.cell? ⟨w3.heap.size, i, none⟩ = (#[.int .i64 qt, .int .i64 q0, .int .i64 q1, .int .i64 q2, .slice A1 QL.length c1] : Array Value)[i]? := HS1.out.cell; have k2 : ∀ i, w6.cell? ⟨w5.heap.size, i, none⟩ = (#[.int .i64 qt, .int .i64 q0, .int .i64 q1, .int .i64 q2, .slice A2 QL.length c2] : Array Value)[i]? := HS2.out.cell; clear hN1 hg1 hs1)
            refine (same17_self qt q0 q1 q2 QL A1 A2 c1 c2 _ HU1.out HU2.out (by omega)).mono ?_; rintro e w7 ⟨rfl, hb⟩
            have HQ := Lib.hid (HQ.out.below hb)
            clear hb k1 k2
            go_wp2_with fail
            go_ret
            exact ⟨rfl, HQ.out.bel⟩
end Go.Proofs.YtampjkgkiooibaaDoor
