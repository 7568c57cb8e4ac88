/- bilgelaw20.RankOrder: no pod goes ahead of itself; of two just one does; what goes ahead of one goes ahead of all behind that one. -/
import Derived.Test.YtlnpmdchhmbblaaRankLaw
namespace Go.Proofs.Ytlnpmdchhmbblaa
open Go.RowKit
structure OQ (a b c : Pd) (r : Rw) (w W : World) : Prop where
  pa : Blk W (w.heap.size) 24 a.cells
  pb : Blk W (w.heap.size + 1) 24 b.cells
  pc : Blk W (w.heap.size + 1 + 1) 24 c.cells
  rw : Blk W (w.heap.size + 1 + 1 + 1) 44 r.cells
  wf : r.Wf W
  bel : Below w.heap.size w W
theorem OQ.below {a b c : Pd} {r : Rw} {w W W' : World} (h : OQ a b c r w W) (hb : Below W.heap.size W W') : OQ a b c r w W' := ⟨h.pa.belowAll hb, h.pb.belowAll hb, h.pc.belowAll hb, h.rw.belowAll hb, h.wf.below hb, h.bel.trans (hb.mono h.bel.size)⟩
theorem OQ.alloc {a b c : Pd} {r : Rw} {w W : World} (h : OQ a b c r w W) (o : Obj) : OQ a b c r w (W.alloc o) := ⟨h.pa.alloc o, h.pb.alloc o, h.pc.alloc o, h.rw.alloc o, h.wf.below ((Below.refl _ _).alloc (Nat.le_refl _) o), h.bel.alloc h.bel.size o⟩
theorem OQ.drew {a b c : Pd} {r : Rw} {w W : World} (h : OQ a b c r w W) : OQ a b c r w W.drew := ⟨h.pa.drew, h.pb.drew, h.pc.drew, h.rw.drew, h.wf.below (Below.refl _ _).drew, h.bel.drew⟩
theorem OQ.new (a b c : Pd) (r : Rw) (w : World) (h : r.Wf w) : OQ a b c r w ((((w.alloc (.cells a.cells 24)).alloc (.cells b.cells 24)).alloc (.cells c.cells 24)).alloc (.cells r.cells 44)) := by
  have z1 : (w.alloc (.cells a.cells 24)).heap.size = w.heap.size + 1 := by simp
  have z2 : ((w.alloc (.cells a.cells 24)).alloc (.cells b.cells 24)).heap.size = w.heap.size + 1 + 1 := by simp
  have z3 : (((w.alloc (.cells a.cells 24)).alloc (.cells b.cells 24)).alloc (.cells c.cells 24)).heap.size = w.heap.size + 1 + 1 + 1 := by simp
  have b0 := Blk.new w 24 a.cells
  have b1 := Blk.new (w.alloc (.cells a.cells 24)) 24 b.cells
  rw [z1] at b1
  have b2 := Blk.new ((w.alloc (.cells a.cells 24)).alloc (.cells b.cells 24)) 24 c.cells
  rw [z2] at b2
  have b3 := Blk.new (((w.alloc (.cells a.cells 24)).alloc (.cells b.cells 24)).alloc (.cells c.cells 24)) 44 r.cells
  rw [z3] at b3
  have bel : Below w.heap.size w ((((w.alloc (.cells a.cells 24)).alloc (.cells b.cells 24)).alloc (.cells c.cells 24)).alloc (.cells r.cells 44)) := ((((Below.refl w.heap.size w).alloc (Nat.le_refl _) _).alloc (by rw [z1]; omega) _).alloc (by rw [z2]; omega) _).alloc (by rw [z3]; omega) _
  exact ⟨(((b0.alloc _).alloc _).alloc _), ((b1.alloc _).alloc _), (b2.alloc _), b3, h.below bel, bel⟩
theorem OQ.cells {a b c : Pd} {r : Rw} {w W : World} (h : OQ a b c r w W) {s : Sp} {n : Nat} (hs : SB s n W) : W.cell? ⟨w.heap.size, 0, none⟩ = some (.string a.id) ∧ W.cell? ⟨w.heap.size, 1, none⟩ = some (.int .i64 a.prio) ∧ W.cell? ⟨w.heap.size, 2, none⟩ = some (.bool a.crit) ∧ W.cell? ⟨w.heap.size, 3, none⟩ = some (.int .i64 a.q0) ∧ W.cell? ⟨w.heap.size, 4, none⟩ = some (.int .i64 a.q1) ∧ W.cell? ⟨w.heap.size, 5, none⟩ = some (.int .i64 a.q2) ∧ W.cell? ⟨w.heap.size, 6, none⟩ = some (.int .i64 a.l0) ∧ W.cell? ⟨w.heap.size, 7, none⟩ = some (.int .i64 a.l1) ∧ W.cell? ⟨w.heap.size, 8, none⟩ = some (.int .i64 a.l2) ∧ W.cell? ⟨w.heap.size, 9, none⟩ = some (.string a.image) ∧ W.cell? ⟨w.heap.size, 10, none⟩ = some (.int .i64 a.size) ∧ W.cell? ⟨w.heap.size + 1, 0, none⟩ = some (.string b.id) ∧ W.cell? ⟨w.heap.size + 1, 1, none⟩ = some (.int .i64 b.prio) ∧ W.cell? ⟨w.heap.size + 1, 2, none⟩ = some (.bool b.crit) ∧ W.cell? ⟨w.heap.size + 1, 3, none⟩ = some (.int .i64 b.q0) ∧ W.cell? ⟨w.heap.size + 1, 4, none⟩ = some (.int .i64 b.q1) ∧ W.cell? ⟨w.heap.size + 1, 5, none⟩ = some (.int .i64 b.q2) ∧ W.cell? ⟨w.heap.size + 1, 6, none⟩ = some (.int .i64 b.l0) ∧ W.cell? ⟨w.heap.size + 1, 7, none⟩ = some (.int .i64 b.l1) ∧ W.cell? ⟨w.heap.size + 1, 8, none⟩ = some (.int .i64 b.l2) ∧ W.cell? ⟨w.heap.size + 1, 9, none⟩ = some (.string b.image) ∧ W.cell? ⟨w.heap.size + 1, 10, none⟩ = some (.int .i64 b.size) ∧ W.cell? ⟨n, 0, none⟩ = some (.int .i64 s.time) ∧ W.cell? ⟨n, 1, none⟩ = some (.int .i64 s.v0) ∧ W.cell? ⟨n, 2, none⟩ = some (.int .i64 s.v1) ∧ W.cell? ⟨n, 3, none⟩ = some (.int .i64 s.v2) ∧ W.cell? ⟨n, 4, none⟩ = some (.slice s.A s.uses.length s.c) :=
  ⟨h.pa.cell 0, h.pa.cell 1, h.pa.cell 2, h.pa.cell 3, h.pa.cell 4, h.pa.cell 5, h.pa.cell 6, h.pa.cell 7, h.pa.cell 8, h.pa.cell 9, h.pa.cell 10, h.pb.cell 0, h.pb.cell 1, h.pb.cell 2, h.pb.cell 3, h.pb.cell 4, h.pb.cell 5, h.pb.cell 6, h.pb.cell 7, h.pb.cell 8, h.pb.cell 9, h.pb.cell 10, hs.smp.cell 0, hs.smp.cell 1, hs.smp.cell 2, hs.smp.cell 3, hs.smp.cell 4⟩
set_option maxRecDepth 100000 in
set_option maxHeartbeats 16000000 in
theorem rankOrder_any (n : UInt8) (a b c : Pd) (r : Rw) (ha : a.Wf) (hb : b.Wf) (hc : c.Wf) (w : World) (hr : r.Wf w) :
    Calls Try.prog 7 #[.int .u8 n.toNat, .agg a.cells, .agg b.cells, .agg c.cells, .agg r.cells] w fun e w' => e = .returned (.bool true) ∧ Below w.heap.size w w' := by
  have HQ := Lib.hid (OQ.new a b c r w hr)
  have HA := Lib.hid ha
  have HB := Lib.hid hb
  have HC := Lib.hid hc
  clear ha hb hc hr
  go_enter Try.func7, Try.ntmps7
  go_wp2_with fail
  refine (awake20_any _).mono ?_; rintro e w1 ⟨rfl, hb⟩
  have HQ := Lib.hid (HQ.out.below hb)
  clear hb
  have cpa := HQ.out.pa.cell
  have cpb := HQ.out.pb.cell
  have cpc := HQ.out.pc.cell
  cases hf : fewB [a, b, c]
  · go_wp2_with fail
    refine (few3_any hf _).mono ?_; rintro e wv ⟨rfl, hb⟩
    have HQ := Lib.hid ((HQ.out.alloc _).below hb)
    clear hb cpa cpb cpc
    clear hf
    go_wp2_with fail
    refine (awake20_any _).mono ?_; rintro e w9 ⟨rfl, hb⟩
    have HQ := Lib.hid (HQ.out.below hb)
    clear hb
    go_wp2_with fail
    go_ret
    exact ⟨rfl, HQ.out.bel⟩
  · go_wp2_with fail
    refine (few3_any hf _).mono ?_; rintro e wv ⟨rfl, hb⟩
    have HQ := Lib.hid ((HQ.out.alloc _).below hb)
    clear hb cpa cpb cpc
    have Hhf := Lib.hid hf
    clear hf
    have cpa := HQ.out.pa.cell
    cases hra : a.right
    · go_wp2_with fail
      refine (rightV_any hra _ HA.out).mono ?_; rintro e wv ⟨rfl, hb⟩
      have HQ := Lib.hid (HQ.out.below hb)
      clear hb cpa
      clear hra
      go_wp2_with fail
      refine (awake20_any _).mono ?_; rintro e w9 ⟨rfl, hb⟩
      have HQ := Lib.hid (HQ.out.below hb)
      clear hb
      go_wp2_with fail
      go_ret
      exact ⟨rfl, HQ.out.bel⟩
    · go_wp2_with fail
      refine (rightV_any hra _ HA.out).mono ?_; rintro e wv ⟨rfl, hb⟩
      have HQ := Lib.hid (HQ.out.below hb)
      clear hb cpa
      have Hhra := Lib.hid hra
      clear hra
      have cpb := HQ.out.pb.cell
      cases hrb : b.right
      · go_wp2_with fail
        refine (rightV_any hrb _ HB.out).mono ?_; rintro e wv ⟨rfl, hb⟩
        have HQ := Lib.hid (HQ.out.below hb)
        clear hb cpb
        clear hrb
        go_wp2_with fail
        refine (awake20_any _).mono ?_; rintro e w9 ⟨rfl, hb⟩
        have HQ := Lib.hid (HQ.out.below hb)
        clear hb
        go_wp2_with fail
        go_ret
        exact ⟨rfl, HQ.out.bel⟩
      · go_wp2_with fail
        refine (rightV_any hrb _ HB.out).mono ?_; rintro e wv ⟨rfl, hb⟩
        have HQ := Lib.hid (HQ.out.below hb)
        clear hb cpb
        have Hhrb := Lib.hid hrb
        clear hrb
        have cpc := HQ.out.pc.cell
        cases hrc : c.right
        · go_wp2_with fail
          refine (rightV_any hrc _ HC.out).mono ?_; rintro e wv ⟨rfl, hb⟩
          have HQ := Lib.hid (HQ.out.below hb)
          clear hb cpc
          clear hrc
          go_wp2_with fail
          refine (awake20_any _).mono ?_; rintro e w9 ⟨rfl, hb⟩
          have HQ := Lib.hid (HQ.out.below hb)
          clear hb
          go_wp2_with fail
          go_ret
          exact ⟨rfl, HQ.out.bel⟩
        · go_wp2_with fail
          refine (rightV_any hrc _ HC.out).mono ?_; rintro e wv ⟨rfl, hb⟩
          have HQ := Lib.hid (HQ.out.below hb)
          clear hb cpc
          have Hhrc := Lib.hid hrc
          clear hrc
          have crw := HQ.out.rw.cell
          cases hfr : fewR r.uses
          · go_wp2_with fail
            refine (fewW_any hfr HQ.out.wf).mono ?_; rintro e wv ⟨rfl, hb⟩
            have HQ := Lib.hid (HQ.out.below hb)
            clear hb crw
            clear hfr
            go_wp2_with fail
            refine (awake20_any _).mono ?_; rintro e w9 ⟨rfl, hb⟩
            have HQ := Lib.hid (HQ.out.below hb)
            clear hb
            go_wp2_with fail
            go_ret
            exact ⟨rfl, HQ.out.bel⟩
          · go_wp2_with fail
            refine (fewW_any hfr HQ.out.wf).mono ?_; rintro e wv ⟨rfl, hb⟩
            have HQ := Lib.hid (HQ.out.below hb)
            clear hb crw
            have Hhfr := Lib.hid hfr
            clear hfr
            have crw := HQ.out.rw.cell
            by_cases hr : RightR r
            rotate_left
            · go_wp2_with fail
              refine (rightN_any hr HQ.out.wf).mono ?_; rintro e wv ⟨rfl, hb⟩
              have HQ := Lib.hid (HQ.out.below hb)
              clear hb crw
              clear hr
              go_wp2_with fail
              refine (awake20_any _).mono ?_; rintro e w9 ⟨rfl, hb⟩
              have HQ := Lib.hid (HQ.out.below hb)
              clear hb
              go_wp2_with fail
              go_ret
              exact ⟨rfl, HQ.out.bel⟩
            · go_wp2_with fail
              refine (rightY_any hr HQ.out.wf).mono ?_; rintro e wv ⟨rfl, hb⟩
              have HQ := Lib.hid (HQ.out.below hb)
              clear hb crw
              have Hhr := Lib.hid hr
              clear hr
              obtain ⟨k, hk⟩ : ∃ k : Int, (n.toNat : Int) % 3 = k := ⟨_, rfl⟩
              have HKK : Hid (k = 0 ∨ k = 1 ∨ k = 2) := by show _ ∨ _; rw [← hk]; exact signal_cases n
              have HSG := Lib.hid (fun W => signalV hk W)
              clear hk
              obtain ⟨V0, HV0⟩ : ∃ V, Hid (readN r.v0 = V) := ⟨_, Lib.hid rfl⟩
              obtain ⟨V1, HV1⟩ : ∃ V, Hid (readN r.v1 = V) := ⟨_, Lib.hid rfl⟩
              obtain ⟨V2, HV2⟩ : ∃ V, Hid (readN r.v2 = V) := ⟨_, Lib.hid rfl⟩
              obtain ⟨us, HUS⟩ : ∃ us, Hid (readUses r.uses = us) := ⟨_, Lib.hid rfl⟩
              have HU : Hid (UsOk k us) := by show UsOk k us; rw [← HUS.out]; exact usOk_raw Hhr.out k
              go_wp2_with fail
              refine (HSG.out _).mono ?_; rintro e wk ⟨rfl, rfl⟩
              have crw := HQ.out.rw.cell
              go_wp2_with fail
              refine (readW_any HV0.out HV1.out HV2.out HUS.out Hhr.out HQ.out.wf).mono ?_; rintro e wr ⟨AU, cU, rfl, hO, hb⟩
              have HQ := Lib.hid (HQ.out.below hb)
              have HRU := Lib.hid hO.toRds
              clear hb hO crw HSG HV0 HV1 HV2 HUS
              have HAR : Hid (a.Wf ∧ a.right = true) := ⟨HA.out, Hhra.out⟩
              have HBR : Hid (b.Wf ∧ b.right = true) := ⟨HB.out, Hhrb.out⟩
              have HCR : Hid (c.Wf ∧ c.right = true) := ⟨HC.out, Hhrc.out⟩
              have HQ := Lib.hid (HQ.out.alloc (.cells #[.int .i64 r.time, .int .i64 V0, .int .i64 V1, .int .i64 V2, .slice AU us.length cU] 36))
              have HS : Hid (SB (⟨r.time, V0, V1, V2, AU, us, cU⟩ : Sp) wr.heap.size (wr.alloc (.cells #[.int .i64 r.time, .int .i64 V0, .int .i64 V1, .int .i64 V2, .slice AU us.length cU] 36))) := SB.new (⟨r.time, V0, V1, V2, AU, us, cU⟩ : Sp) wr HRU.out
              clear HRU
              have haa := Lib.hid (ahead_self k a us)
              go_wp2_with fail
              obtain ⟨W2, hW2⟩ : ∃ W2, W2 = (wr.alloc (.cells #[.int .i64 r.time, .int .i64 V0, .int .i64 V1, .int .i64 V2, .slice AU us.length cU] 36)) := ⟨_, rfl⟩
              rw [← hW2] at HQ HS ⊢
              clear hW2
              generalize wr.heap.size = n at *
              have HQd := HQ
              have HSd := HS
              have HQ := Lib.hid HQ.out.drew
              have HS := Lib.hid HS.out.drew
              go_cut [77] (fun v W => v = .bool false ∧ OQ a b c r w W ∧ SB (⟨r.time, V0, V1, V2, AU, us, cU⟩ : Sp) n W)
              case first =>
                cases hne : (a.id.toList != b.id.toList)
                · refine wp_region_held_drew (S := (fun w' => w'.cell? ⟨w.heap.size, 0, none⟩ = some (.string a.id) ∧ w'.cell? ⟨w.heap.size, 1, none⟩ = some (.int .i64 a.prio) ∧ w'.cell? ⟨w.heap.size, 2, none⟩ = some (.bool a.crit) ∧ w'.cell? ⟨w.heap.size, 3, none⟩ = some (.int .i64 a.q0) ∧ w'.cell? ⟨w.heap.size, 4, none⟩ = some (.int .i64 a.q1) ∧ w'.cell? ⟨w.heap.size, 5, none⟩ = some (.int .i64 a.q2) ∧ w'.cell? ⟨w.heap.size, 6, none⟩ = some (.int .i64 a.l0) ∧ w'.cell? ⟨w.heap.size, 7, none⟩ = some (.int .i64 a.l1) ∧ w'.cell? ⟨w.heap.size, 8, none⟩ = some (.int .i64 a.l2) ∧ w'.cell? ⟨w.heap.size, 9, none⟩ = some (.string a.image) ∧ w'.cell? ⟨w.heap.size, 10, none⟩ = some (.int .i64 a.size) ∧ w'.cell? ⟨w.heap.size + 1, 0, none⟩ = some (.string b.id) ∧ w'.cell? ⟨w.heap.size + 1, 1, none⟩ = some (.int .i64 b.prio) ∧ w'.cell? ⟨w.heap.size + 1, 2, none⟩ = some (.bool b.crit) ∧ w'.cell? ⟨w.heap.size + 1, 3, none⟩ = some (.int .i64 b.q0) ∧ w'.cell? ⟨w.heap.size + 1, 4, none⟩ = some (.int .i64 b.q1) ∧ w'.cell? ⟨w.heap.size + 1, 5, none⟩ = some (.int .i64 b.q2) ∧ w'.cell? ⟨w.heap.size + 1, 6, none⟩ = some (.int .i64 b.l0) ∧ w'.cell? ⟨w.heap.size + 1, 7, none⟩ = some (.int .i64 b.l1) ∧ w'.cell? ⟨w.heap.size + 1, 8, none⟩ = some (.int .i64 b.l2) ∧ w'.cell? ⟨w.heap.size + 1, 9, none⟩ = some (.string b.image) ∧ w'.cell? ⟨w.heap.size + 1, 10, none⟩ = some (.int .i64 b.size) ∧ w'.cell? ⟨n, 0, none⟩ = some (.int .i64 r.time) ∧ w'.cell? ⟨n, 1, none⟩ = some (.int .i64 V0) ∧ w'.cell? ⟨n, 2, none⟩ = some (.int .i64 V1) ∧ w'.cell? ⟨n, 3, none⟩ = some (.int .i64 V2) ∧ w'.cell? ⟨n, 4, none⟩ = some (.slice AU us.length cU))) (by kernel_rfl) (HQ.out.cells HS.out) (fun hHeld => ?_)
                  refine held_take 0 53 (.int .i64 k) rfl rfl (by kernel_rfl) (by kernel_rfl) (by kernel_rfl) (fun _ _ _ h => h) (by rfl) (by intro w' hSw; (try dsimp only at hSw); go_simp; (try (with_reducible rfl))) (by assumption) ?_
                  simp only [Act.put, List.setIfInBounds_toArray, List.set_cons_zero, List.set_cons_succ]
                  refine held_take 1 54 (.agg #[.string a.id, .int .i64 a.prio, .bool a.crit, .int .i64 a.q0, .int .i64 a.q1, .int .i64 a.q2, .int .i64 a.l0, .int .i64 a.l1, .int .i64 a.l2, .string a.image, .int .i64 a.size]) rfl rfl (by kernel_rfl) (by kernel_rfl) (by kernel_rfl) (fun _ _ _ h => h) (by rfl) (by intro w' hSw; (try dsimp only at hSw); go_simp; (try (with_reducible rfl))) (by assumption) ?_
                  simp only [Act.put, List.setIfInBounds_toArray, List.set_cons_zero, List.set_cons_succ]
                  refine held_take 2 55 (.agg #[.string a.id, .int .i64 a.prio, .bool a.crit, .int .i64 a.q0, .int .i64 a.q1, .int .i64 a.q2, .int .i64 a.l0, .int .i64 a.l1, .int .i64 a.l2, .string a.image, .int .i64 a.size]) rfl rfl (by kernel_rfl) (by kernel_rfl) (by kernel_rfl) (fun _ _ _ h => h) (by rfl) (by intro w' hSw; (try dsimp only at hSw); go_simp; (try (with_reducible rfl))) (by assumption) ?_
                  simp only [Act.put, List.setIfInBounds_toArray, List.set_cons_zero, List.set_cons_succ]
                  refine held_take 3 56 (.agg #[.int .i64 r.time, .int .i64 V0, .int .i64 V1, .int .i64 V2, .slice AU us.length cU]) rfl rfl (by kernel_rfl) (by kernel_rfl) (by kernel_rfl) (fun _ _ _ h => h) (by rfl) (by intro w' hSw; (try dsimp only at hSw); go_simp; (try (with_reducible rfl))) (by assumption) ?_
                  simp only [Act.put, List.setIfInBounds_toArray, List.set_cons_zero, List.set_cons_succ]
                  refine held_call 4 57 rfl rfl (by kernel_rfl) (by rfl) (fun K hK => ?_)
                  go_simp
                  go_at_call 15; with_reducible refine (aheadS (s := (⟨r.time, V0, V1, V2, AU, us, cU⟩ : Sp)) HKK.out haa.out HS.out HU.out HAR.out HAR.out).mono ?_; rintro e v1 ⟨rfl, hb⟩; have HQ := Lib.hid (HQ.out.below hb); have HS := Lib.hid (HS.out.below hb); clear hb
                  refine hK _ _ (HQ.out.cells HS.out) ?_
                  have hHeld := HQ.out.cells HS.out
                  clear hK K
                  simp only [Act.put, List.setIfInBounds_toArray, List.set_cons_zero, List.set_cons_succ]
                  refine held_take 5 58 (.bool false) rfl rfl (by kernel_rfl) (by kernel_rfl) (by kernel_rfl) (fun _ _ _ h => h) (by rfl) (by intro w' hSw; (try dsimp only at hSw); go_simp; (try (with_reducible rfl))) (by assumption) ?_
                  simp only [Act.put, List.setIfInBounds_toArray, List.set_cons_zero, List.set_cons_succ]
                  refine held_take 6 59 (.pointer (some ⟨w.heap.size, 0, none⟩)) rfl rfl (by kernel_rfl) (by kernel_rfl) (by kernel_rfl) (fun _ _ _ h => h) (by rfl) (by intro w' hSw; (try dsimp only at hSw); go_simp; (try (with_reducible rfl))) (by assumption) ?_
                  simp only [Act.put, List.setIfInBounds_toArray, List.set_cons_zero, List.set_cons_succ]
                  refine held_take 7 60 (.string a.id) rfl rfl (by kernel_rfl) (by kernel_rfl) (by kernel_rfl) (fun _ _ _ h => h) (by rfl) (by intro w' hSw; (try dsimp only at hSw); go_simp; (try (with_reducible rfl))) (by assumption) ?_
                  simp only [Act.put, List.setIfInBounds_toArray, List.set_cons_zero, List.set_cons_succ]
                  refine held_take 8 61 (.pointer (some ⟨w.heap.size + 1, 0, none⟩)) rfl rfl (by kernel_rfl) (by kernel_rfl) (by kernel_rfl) (fun _ _ _ h => h) (by rfl) (by intro w' hSw; (try dsimp only at hSw); go_simp; (try (with_reducible rfl))) (by assumption) ?_
                  simp only [Act.put, List.setIfInBounds_toArray, List.set_cons_zero, List.set_cons_succ]
                  refine held_take 9 62 (.string b.id) rfl rfl (by kernel_rfl) (by kernel_rfl) (by kernel_rfl) (fun _ _ _ h => h) (by rfl) (by intro w' hSw; (try dsimp only at hSw); go_simp; (try (with_reducible rfl))) (by assumption) ?_
                  simp only [Act.put, List.setIfInBounds_toArray, List.set_cons_zero, List.set_cons_succ]
                  refine held_take 10 63 (.bool false) rfl rfl (by kernel_rfl) (by kernel_rfl) (by kernel_rfl) (fun _ _ _ h => h) (by rfl) (by intro w' hSw; (try dsimp only at hSw); go_simp; (first | done | with_reducible rfl | simpa using hne)) (by assumption) ?_
                  simp only [Act.put, List.setIfInBounds_toArray, List.set_cons_zero, List.set_cons_succ]
                  refine held_take 11 64 (.bool false) rfl rfl (by kernel_rfl) (by kernel_rfl) (by kernel_rfl) (fun _ _ _ h => h) (by rfl) (by intro w' hSw; (try dsimp only at hSw); go_simp; (try (with_reducible rfl))) (by assumption) ?_
                  simp only [Act.put, List.setIfInBounds_toArray, List.set_cons_zero, List.set_cons_succ]
                  refine held_skip 12 65 rfl rfl (by kernel_rfl) (by kernel_rfl) (by kernel_rfl) (fun _ _ _ h => h) (by rfl) (by assumption) ?_
                  simp only [Act.put, List.setIfInBounds_toArray, List.set_cons_zero, List.set_cons_succ]
                  refine held_skip 13 66 rfl rfl (by kernel_rfl) (by kernel_rfl) (by kernel_rfl) (fun _ _ _ h => h) (by rfl) (by assumption) ?_
                  simp only [Act.put, List.setIfInBounds_toArray, List.set_cons_zero, List.set_cons_succ]
                  refine held_skip 14 67 rfl rfl (by kernel_rfl) (by kernel_rfl) (by kernel_rfl) (fun _ _ _ h => h) (by rfl) (by assumption) ?_
                  simp only [Act.put, List.setIfInBounds_toArray, List.set_cons_zero, List.set_cons_succ]
                  refine held_skip 15 68 rfl rfl (by kernel_rfl) (by kernel_rfl) (by kernel_rfl) (fun _ _ _ h => h) (by rfl) (by assumption) ?_
                  simp only [Act.put, List.setIfInBounds_toArray, List.set_cons_zero, List.set_cons_succ]
                  refine held_skip 16 69 rfl rfl (by kernel_rfl) (by kernel_rfl) (by kernel_rfl) (fun _ _ _ h => h) (by rfl) (by assumption) ?_
                  simp only [Act.put, List.setIfInBounds_toArray, List.set_cons_zero, List.set_cons_succ]
                  refine held_skip 17 70 rfl rfl (by kernel_rfl) (by kernel_rfl) (by kernel_rfl) (fun _ _ _ h => h) (by rfl) (by assumption) ?_
                  simp only [Act.put, List.setIfInBounds_toArray, List.set_cons_zero, List.set_cons_succ]
                  refine held_skip 18 71 rfl rfl (by kernel_rfl) (by kernel_rfl) (by kernel_rfl) (fun _ _ _ h => h) (by rfl) (by assumption) ?_
                  simp only [Act.put, List.setIfInBounds_toArray, List.set_cons_zero, List.set_cons_succ]
                  refine held_skip 19 72 rfl rfl (by kernel_rfl) (by kernel_rfl) (by kernel_rfl) (fun _ _ _ h => h) (by rfl) (by assumption) ?_
                  simp only [Act.put, List.setIfInBounds_toArray, List.set_cons_zero, List.set_cons_succ]
                  refine held_skip 20 73 rfl rfl (by kernel_rfl) (by kernel_rfl) (by kernel_rfl) (fun _ _ _ h => h) (by rfl) (by assumption) ?_
                  simp only [Act.put, List.setIfInBounds_toArray, List.set_cons_zero, List.set_cons_succ]
                  refine held_skip 21 74 rfl rfl (by kernel_rfl) (by kernel_rfl) (by kernel_rfl) (fun _ _ _ h => h) (by rfl) (by assumption) ?_
                  simp only [Act.put, List.setIfInBounds_toArray, List.set_cons_zero, List.set_cons_succ]
                  refine held_skip 22 75 rfl rfl (by kernel_rfl) (by kernel_rfl) (by kernel_rfl) (fun _ _ _ h => h) (by rfl) (by assumption) ?_
                  simp only [Act.put, List.setIfInBounds_toArray, List.set_cons_zero, List.set_cons_succ]
                  refine held_take 23 76 (.bool false) rfl rfl (by kernel_rfl) (by kernel_rfl) (by kernel_rfl) (fun _ _ _ h => h) (by rfl) (by intro w' hSw; (try dsimp only at hSw); go_simp; (try (with_reducible rfl))) (by assumption) ?_
                  simp only [Act.put, List.setIfInBounds_toArray, List.set_cons_zero, List.set_cons_succ]
                  refine held_take 24 77 (.bool false) rfl rfl (by kernel_rfl) (by kernel_rfl) (by kernel_rfl) (fun _ _ _ h => h) (by rfl) (by intro w' hSw; (try dsimp only at hSw); go_simp; (try (with_reducible rfl))) (by assumption) ?_
                  simp only [Act.put, List.setIfInBounds_toArray, List.set_cons_zero, List.set_cons_succ]
                  refine wpAnyH_done (by kernel_rfl) ?_ _
                  go_wp2_with fail
                  go_meet
                  exact ⟨rfl, HQ.out, HS.out⟩
                · have hne2 : a.id ≠ b.id := fun e => by rw [e] at hne; simp at hne
                  have HFL := Lib.hid (ahead_flip (k := k) (us := us) hne2)
                  clear hne2
                  cases hv : aheadB k a b us
                  · have Hv := Lib.hid hv
                    have Hv2 := Lib.hid (HFL.out.trans (by rw [hv]; rfl : _ = true))
                    clear hv HFL
                    refine wp_region_held_drew (S := (fun w' => w'.cell? ⟨w.heap.size, 0, none⟩ = some (.string a.id) ∧ w'.cell? ⟨w.heap.size, 1, none⟩ = some (.int .i64 a.prio) ∧ w'.cell? ⟨w.heap.size, 2, none⟩ = some (.bool a.crit) ∧ w'.cell? ⟨w.heap.size, 3, none⟩ = some (.int .i64 a.q0) ∧ w'.cell? ⟨w.heap.size, 4, none⟩ = some (.int .i64 a.q1) ∧ w'.cell? ⟨w.heap.size, 5, none⟩ = some (.int .i64 a.q2) ∧ w'.cell? ⟨w.heap.size, 6, none⟩ = some (.int .i64 a.l0) ∧ w'.cell? ⟨w.heap.size, 7, none⟩ = some (.int .i64 a.l1) ∧ w'.cell? ⟨w.heap.size, 8, none⟩ = some (.int .i64 a.l2) ∧ w'.cell? ⟨w.heap.size, 9, none⟩ = some (.string a.image) ∧ w'.cell? ⟨w.heap.size, 10, none⟩ = some (.int .i64 a.size) ∧ w'.cell? ⟨w.heap.size + 1, 0, none⟩ = some (.string b.id) ∧ w'.cell? ⟨w.heap.size + 1, 1, none⟩ = some (.int .i64 b.prio) ∧ w'.cell? ⟨w.heap.size + 1, 2, none⟩ = some (.bool b.crit) ∧ w'.cell? ⟨w.heap.size + 1, 3, none⟩ = some (.int .i64 b.q0) ∧ w'.cell? ⟨w.heap.size + 1, 4, none⟩ = some (.int .i64 b.q1) ∧ w'.cell? ⟨w.heap.size + 1, 5, none⟩ = some (.int .i64 b.q2) ∧ w'.cell? ⟨w.heap.size + 1, 6, none⟩ = some (.int .i64 b.l0) ∧ w'.cell? ⟨w.heap.size + 1, 7, none⟩ = some (.int .i64 b.l1) ∧ w'.cell? ⟨w.heap.size + 1, 8, none⟩ = some (.int .i64 b.l2) ∧ w'.cell? ⟨w.heap.size + 1, 9, none⟩ = some (.string b.image) ∧ w'.cell? ⟨w.heap.size + 1, 10, none⟩ = some (.int .i64 b.size) ∧ w'.cell? ⟨n, 0, none⟩ = some (.int .i64 r.time) ∧ w'.cell? ⟨n, 1, none⟩ = some (.int .i64 V0) ∧ w'.cell? ⟨n, 2, none⟩ = some (.int .i64 V1) ∧ w'.cell? ⟨n, 3, none⟩ = some (.int .i64 V2) ∧ w'.cell? ⟨n, 4, none⟩ = some (.slice AU us.length cU))) (by kernel_rfl) (HQ.out.cells HS.out) (fun hHeld => ?_)
                    refine held_take 0 53 (.int .i64 k) rfl rfl (by kernel_rfl) (by kernel_rfl) (by kernel_rfl) (fun _ _ _ h => h) (by rfl) (by intro w' hSw; (try dsimp only at hSw); go_simp; (try (with_reducible rfl))) (by assumption) ?_
                    simp only [Act.put, List.setIfInBounds_toArray, List.set_cons_zero, List.set_cons_succ]
                    refine held_take 1 54 (.agg #[.string a.id, .int .i64 a.prio, .bool a.crit, .int .i64 a.q0, .int .i64 a.q1, .int .i64 a.q2, .int .i64 a.l0, .int .i64 a.l1, .int .i64 a.l2, .string a.image, .int .i64 a.size]) rfl rfl (by kernel_rfl) (by kernel_rfl) (by kernel_rfl) (fun _ _ _ h => h) (by rfl) (by intro w' hSw; (try dsimp only at hSw); go_simp; (try (with_reducible rfl))) (by assumption) ?_
                    simp only [Act.put, List.setIfInBounds_toArray, List.set_cons_zero, List.set_cons_succ]
                    refine held_take 2 55 (.agg #[.string a.id, .int .i64 a.prio, .bool a.crit, .int .i64 a.q0, .int .i64 a.q1, .int .i64 a.q2, .int .i64 a.l0, .int .i64 a.l1, .int .i64 a.l2, .string a.image, .int .i64 a.size]) rfl rfl (by kernel_rfl) (by kernel_rfl) (by kernel_rfl) (fun _ _ _ h => h) (by rfl) (by intro w' hSw; (try dsimp only at hSw); go_simp; (try (with_reducible rfl))) (by assumption) ?_
                    simp only [Act.put, List.setIfInBounds_toArray, List.set_cons_zero, List.set_cons_succ]
                    refine held_take 3 56 (.agg #[.int .i64 r.time, .int .i64 V0, .int .i64 V1, .int .i64 V2, .slice AU us.length cU]) rfl rfl (by kernel_rfl) (by kernel_rfl) (by kernel_rfl) (fun _ _ _ h => h) (by rfl) (by intro w' hSw; (try dsimp only at hSw); go_simp; (try (with_reducible rfl))) (by assumption) ?_
                    simp only [Act.put, List.setIfInBounds_toArray, List.set_cons_zero, List.set_cons_succ]
                    refine held_call 4 57 rfl rfl (by kernel_rfl) (by rfl) (fun K hK => ?_)
                    go_simp
                    go_at_call 15; with_reducible refine (aheadS (s := (⟨r.time, V0, V1, V2, AU, us, cU⟩ : Sp)) HKK.out haa.out HS.out HU.out HAR.out HAR.out).mono ?_; rintro e v1 ⟨rfl, hb⟩; have HQ := Lib.hid (HQ.out.below hb); have HS := Lib.hid (HS.out.below hb); clear hb
                    refine hK _ _ (HQ.out.cells HS.out) ?_
                    have hHeld := HQ.out.cells HS.out
                    clear hK K
                    simp only [Act.put, List.setIfInBounds_toArray, List.set_cons_zero, List.set_cons_succ]
                    refine held_take 5 58 (.bool false) rfl rfl (by kernel_rfl) (by kernel_rfl) (by kernel_rfl) (fun _ _ _ h => h) (by rfl) (by intro w' hSw; (try dsimp only at hSw); go_simp; (try (with_reducible rfl))) (by assumption) ?_
                    simp only [Act.put, List.setIfInBounds_toArray, List.set_cons_zero, List.set_cons_succ]
                    refine held_take 6 59 (.pointer (some ⟨w.heap.size, 0, none⟩)) rfl rfl (by kernel_rfl) (by kernel_rfl) (by kernel_rfl) (fun _ _ _ h => h) (by rfl) (by intro w' hSw; (try dsimp only at hSw); go_simp; (try (with_reducible rfl))) (by assumption) ?_
                    simp only [Act.put, List.setIfInBounds_toArray, List.set_cons_zero, List.set_cons_succ]
                    refine held_take 7 60 (.string a.id) rfl rfl (by kernel_rfl) (by kernel_rfl) (by kernel_rfl) (fun _ _ _ h => h) (by rfl) (by intro w' hSw; (try dsimp only at hSw); go_simp; (try (with_reducible rfl))) (by assumption) ?_
                    simp only [Act.put, List.setIfInBounds_toArray, List.set_cons_zero, List.set_cons_succ]
                    refine held_take 8 61 (.pointer (some ⟨w.heap.size + 1, 0, none⟩)) rfl rfl (by kernel_rfl) (by kernel_rfl) (by kernel_rfl) (fun _ _ _ h => h) (by rfl) (by intro w' hSw; (try dsimp only at hSw); go_simp; (try (with_reducible rfl))) (by assumption) ?_
                    simp only [Act.put, List.setIfInBounds_toArray, List.set_cons_zero, List.set_cons_succ]
                    refine held_take 9 62 (.string b.id) rfl rfl (by kernel_rfl) (by kernel_rfl) (by kernel_rfl) (fun _ _ _ h => h) (by rfl) (by intro w' hSw; (try dsimp only at hSw); go_simp; (try (with_reducible rfl))) (by assumption) ?_
                    simp only [Act.put, List.setIfInBounds_toArray, List.set_cons_zero, List.set_cons_succ]
                    refine held_take 10 63 (.bool true) rfl rfl (by kernel_rfl) (by kernel_rfl) (by kernel_rfl) (fun _ _ _ h => h) (by rfl) (by intro w' hSw; (try dsimp only at hSw); go_simp; (first | done | with_reducible rfl | simpa using hne)) (by assumption) ?_
                    simp only [Act.put, List.setIfInBounds_toArray, List.set_cons_zero, List.set_cons_succ]
                    refine held_take 11 64 (.bool true) rfl rfl (by kernel_rfl) (by kernel_rfl) (by kernel_rfl) (fun _ _ _ h => h) (by rfl) (by intro w' hSw; (try dsimp only at hSw); go_simp; (try (with_reducible rfl))) (by assumption) ?_
                    simp only [Act.put, List.setIfInBounds_toArray, List.set_cons_zero, List.set_cons_succ]
                    refine held_take 12 65 (.int .i64 k) rfl rfl (by kernel_rfl) (by kernel_rfl) (by kernel_rfl) (fun _ _ _ h => h) (by rfl) (by intro w' hSw; (try dsimp only at hSw); go_simp; (try (with_reducible rfl))) (by assumption) ?_
                    simp only [Act.put, List.setIfInBounds_toArray, List.set_cons_zero, List.set_cons_succ]
                    refine held_take 13 66 (.agg #[.string a.id, .int .i64 a.prio, .bool a.crit, .int .i64 a.q0, .int .i64 a.q1, .int .i64 a.q2, .int .i64 a.l0, .int .i64 a.l1, .int .i64 a.l2, .string a.image, .int .i64 a.size]) rfl rfl (by kernel_rfl) (by kernel_rfl) (by kernel_rfl) (fun _ _ _ h => h) (by rfl) (by intro w' hSw; (try dsimp only at hSw); go_simp; (try (with_reducible rfl))) (by assumption) ?_
                    simp only [Act.put, List.setIfInBounds_toArray, List.set_cons_zero, List.set_cons_succ]
                    refine held_take 14 67 (.agg #[.string b.id, .int .i64 b.prio, .bool b.crit, .int .i64 b.q0, .int .i64 b.q1, .int .i64 b.q2, .int .i64 b.l0, .int .i64 b.l1, .int .i64 b.l2, .string b.image, .int .i64 b.size]) rfl rfl (by kernel_rfl) (by kernel_rfl) (by kernel_rfl) (fun _ _ _ h => h) (by rfl) (by intro w' hSw; (try dsimp only at hSw); go_simp; (try (with_reducible rfl))) (by assumption) ?_
                    simp only [Act.put, List.setIfInBounds_toArray, List.set_cons_zero, List.set_cons_succ]
                    refine held_take 15 68 (.agg #[.int .i64 r.time, .int .i64 V0, .int .i64 V1, .int .i64 V2, .slice AU us.length cU]) rfl rfl (by kernel_rfl) (by kernel_rfl) (by kernel_rfl) (fun _ _ _ h => h) (by rfl) (by intro w' hSw; (try dsimp only at hSw); go_simp; (try (with_reducible rfl))) (by assumption) ?_
                    simp only [Act.put, List.setIfInBounds_toArray, List.set_cons_zero, List.set_cons_succ]
                    refine held_take 17 70 (.int .i64 k) rfl rfl (by kernel_rfl) (by kernel_rfl) (by kernel_rfl) (fun _ _ _ h => h) (by rfl) (by intro w' hSw; (try dsimp only at hSw); go_simp; (try (with_reducible rfl))) (by assumption) ?_
                    simp only [Act.put, List.setIfInBounds_toArray, List.set_cons_zero, List.set_cons_succ]
                    refine held_take 18 71 (.agg #[.string b.id, .int .i64 b.prio, .bool b.crit, .int .i64 b.q0, .int .i64 b.q1, .int .i64 b.q2, .int .i64 b.l0, .int .i64 b.l1, .int .i64 b.l2, .string b.image, .int .i64 b.size]) rfl rfl (by kernel_rfl) (by kernel_rfl) (by kernel_rfl) (fun _ _ _ h => h) (by rfl) (by intro w' hSw; (try dsimp only at hSw); go_simp; (try (with_reducible rfl))) (by assumption) ?_
                    simp only [Act.put, List.setIfInBounds_toArray, List.set_cons_zero, List.set_cons_succ]
                    refine held_take 19 72 (.agg #[.string a.id, .int .i64 a.prio, .bool a.crit, .int .i64 a.q0, .int .i64 a.q1, .int .i64 a.q2, .int .i64 a.l0, .int .i64 a.l1, .int .i64 a.l2, .string a.image, .int .i64 a.size]) rfl rfl (by kernel_rfl) (by kernel_rfl) (by kernel_rfl) (fun _ _ _ h => h) (by rfl) (by intro w' hSw; (try dsimp only at hSw); go_simp; (try (with_reducible rfl))) (by assumption) ?_
                    simp only [Act.put, List.setIfInBounds_toArray, List.set_cons_zero, List.set_cons_succ]
                    refine held_take 20 73 (.agg #[.int .i64 r.time, .int .i64 V0, .int .i64 V1, .int .i64 V2, .slice AU us.length cU]) rfl rfl (by kernel_rfl) (by kernel_rfl) (by kernel_rfl) (fun _ _ _ h => h) (by rfl) (by intro w' hSw; (try dsimp only at hSw); go_simp; (try (with_reducible rfl))) (by assumption) ?_
                    simp only [Act.put, List.setIfInBounds_toArray, List.set_cons_zero, List.set_cons_succ]
                    refine held_call 16 69 rfl rfl (by kernel_rfl) (by rfl) (fun K hK => ?_)
                    go_simp
                    go_at_call 15; with_reducible refine (aheadS (s := (⟨r.time, V0, V1, V2, AU, us, cU⟩ : Sp)) HKK.out Hv.out HS.out HU.out HAR.out HBR.out).mono ?_; rintro e v1 ⟨rfl, hb⟩; have HQ := Lib.hid (HQ.out.below hb); have HS := Lib.hid (HS.out.below hb); clear hb
                    refine hK _ _ (HQ.out.cells HS.out) ?_
                    have hHeld := HQ.out.cells HS.out
                    clear hK K
                    simp only [Act.put, List.setIfInBounds_toArray, List.set_cons_zero, List.set_cons_succ]
                    refine held_call 21 74 rfl rfl (by kernel_rfl) (by rfl) (fun K hK => ?_)
                    go_simp
                    go_at_call 15; with_reducible refine (aheadS (s := (⟨r.time, V0, V1, V2, AU, us, cU⟩ : Sp)) HKK.out Hv2.out HS.out HU.out HBR.out HAR.out).mono ?_; rintro e v1 ⟨rfl, hb⟩; have HQ := Lib.hid (HQ.out.below hb); have HS := Lib.hid (HS.out.below hb); clear hb
                    refine hK _ _ (HQ.out.cells HS.out) ?_
                    have hHeld := HQ.out.cells HS.out
                    clear hK K
                    simp only [Act.put, List.setIfInBounds_toArray, List.set_cons_zero, List.set_cons_succ]
                    refine held_take 22 75 (.bool false) rfl rfl (by kernel_rfl) (by kernel_rfl) (by kernel_rfl) (fun _ _ _ h => h) (by rfl) (by intro w' hSw; (try dsimp only at hSw); go_simp; (try (with_reducible rfl))) (by assumption) ?_
                    simp only [Act.put, List.setIfInBounds_toArray, List.set_cons_zero, List.set_cons_succ]
                    refine held_take 23 76 (.bool false) rfl rfl (by kernel_rfl) (by kernel_rfl) (by kernel_rfl) (fun _ _ _ h => h) (by rfl) (by intro w' hSw; (try dsimp only at hSw); go_simp; (try (with_reducible rfl))) (by assumption) ?_
                    simp only [Act.put, List.setIfInBounds_toArray, List.set_cons_zero, List.set_cons_succ]
                    refine held_take 24 77 (.bool false) rfl rfl (by kernel_rfl) (by kernel_rfl) (by kernel_rfl) (fun _ _ _ h => h) (by rfl) (by intro w' hSw; (try dsimp only at hSw); go_simp; (try (with_reducible rfl))) (by assumption) ?_
                    simp only [Act.put, List.setIfInBounds_toArray, List.set_cons_zero, List.set_cons_succ]
                    refine wpAnyH_done (by kernel_rfl) ?_ _
                    go_wp2_with fail
                    go_meet
                    exact ⟨rfl, HQ.out, HS.out⟩
                  · have Hv := Lib.hid hv
                    have Hv2 := Lib.hid (HFL.out.trans (by rw [hv]; rfl : _ = false))
                    clear hv HFL
                    refine wp_region_held_drew (S := (fun w' => w'.cell? ⟨w.heap.size, 0, none⟩ = some (.string a.id) ∧ w'.cell? ⟨w.heap.size, 1, none⟩ = some (.int .i64 a.prio) ∧ w'.cell? ⟨w.heap.size, 2, none⟩ = some (.bool a.crit) ∧ w'.cell? ⟨w.heap.size, 3, none⟩ = some (.int .i64 a.q0) ∧ w'.cell? ⟨w.heap.size, 4, none⟩ = some (.int .i64 a.q1) ∧ w'.cell? ⟨w.heap.size, 5, none⟩ = some (.int .i64 a.q2) ∧ w'.cell? ⟨w.heap.size, 6, none⟩ = some (.int .i64 a.l0) ∧ w'.cell? ⟨w.heap.size, 7, none⟩ = some (.int .i64 a.l1) ∧ w'.cell? ⟨w.heap.size, 8, none⟩ = some (.int .i64 a.l2) ∧ w'.cell? ⟨w.heap.size, 9, none⟩ = some (.string a.image) ∧ w'.cell? ⟨w.heap.size, 10, none⟩ = some (.int .i64 a.size) ∧ w'.cell? ⟨w.heap.size + 1, 0, none⟩ = some (.string b.id) ∧ w'.cell? ⟨w.heap.size + 1, 1, none⟩ = some (.int .i64 b.prio) ∧ w'.cell? ⟨w.heap.size + 1, 2, none⟩ = some (.bool b.crit) ∧ w'.cell? ⟨w.heap.size + 1, 3, none⟩ = some (.int .i64 b.q0) ∧ w'.cell? ⟨w.heap.size + 1, 4, none⟩ = some (.int .i64 b.q1) ∧ w'.cell? ⟨w.heap.size + 1, 5, none⟩ = some (.int .i64 b.q2) ∧ w'.cell? ⟨w.heap.size + 1, 6, none⟩ = some (.int .i64 b.l0) ∧ w'.cell? ⟨w.heap.size + 1, 7, none⟩ = some (.int .i64 b.l1) ∧ w'.cell? ⟨w.heap.size + 1, 8, none⟩ = some (.int .i64 b.l2) ∧ w'.cell? ⟨w.heap.size + 1, 9, none⟩ = some (.string b.image) ∧ w'.cell? ⟨w.heap.size + 1, 10, none⟩ = some (.int .i64 b.size) ∧ w'.cell? ⟨n, 0, none⟩ = some (.int .i64 r.time) ∧ w'.cell? ⟨n, 1, none⟩ = some (.int .i64 V0) ∧ w'.cell? ⟨n, 2, none⟩ = some (.int .i64 V1) ∧ w'.cell? ⟨n, 3, none⟩ = some (.int .i64 V2) ∧ w'.cell? ⟨n, 4, none⟩ = some (.slice AU us.length cU))) (by kernel_rfl) (HQ.out.cells HS.out) (fun hHeld => ?_)
                    refine held_take 0 53 (.int .i64 k) rfl rfl (by kernel_rfl) (by kernel_rfl) (by kernel_rfl) (fun _ _ _ h => h) (by rfl) (by intro w' hSw; (try dsimp only at hSw); go_simp; (try (with_reducible rfl))) (by assumption) ?_
                    simp only [Act.put, List.setIfInBounds_toArray, List.set_cons_zero, List.set_cons_succ]
                    refine held_take 1 54 (.agg #[.string a.id, .int .i64 a.prio, .bool a.crit, .int .i64 a.q0, .int .i64 a.q1, .int .i64 a.q2, .int .i64 a.l0, .int .i64 a.l1, .int .i64 a.l2, .string a.image, .int .i64 a.size]) rfl rfl (by kernel_rfl) (by kernel_rfl) (by kernel_rfl) (fun _ _ _ h => h) (by rfl) (by intro w' hSw; (try dsimp only at hSw); go_simp; (try (with_reducible rfl))) (by assumption) ?_
                    simp only [Act.put, List.setIfInBounds_toArray, List.set_cons_zero, List.set_cons_succ]
                    refine held_take 2 55 (.agg #[.string a.id, .int .i64 a.prio, .bool a.crit, .int .i64 a.q0, .int .i64 a.q1, .int .i64 a.q2, .int .i64 a.l0, .int .i64 a.l1, .int .i64 a.l2, .string a.image, .int .i64 a.size]) rfl rfl (by kernel_rfl) (by kernel_rfl) (by kernel_rfl) (fun _ _ _ h => h) (by rfl) (by intro w' hSw; (try dsimp only at hSw); go_simp; (try (with_reducible rfl))) (by assumption) ?_
                    simp only [Act.put, List.setIfInBounds_toArray, List.set_cons_zero, List.set_cons_succ]
                    refine held_take 3 56 (.agg #[.int .i64 r.time, .int .i64 V0, .int .i64 V1, .int .i64 V2, .slice AU us.length cU]) rfl rfl (by kernel_rfl) (by kernel_rfl) (by kernel_rfl) (fun _ _ _ h => h) (by rfl) (by intro w' hSw; (try dsimp only at hSw); go_simp; (try (with_reducible rfl))) (by assumption) ?_
                    simp only [Act.put, List.setIfInBounds_toArray, List.set_cons_zero, List.set_cons_succ]
                    refine held_call 4 57 rfl rfl (by kernel_rfl) (by rfl) (fun K hK => ?_)
                    go_simp
                    go_at_call 15; with_reducible refine (aheadS (s := (⟨r.time, V0, V1, V2, AU, us, cU⟩ : Sp)) HKK.out haa.out HS.out HU.out HAR.out HAR.out).mono ?_; rintro e v1 ⟨rfl, hb⟩; have HQ := Lib.hid (HQ.out.below hb); have HS := Lib.hid (HS.out.below hb); clear hb
                    refine hK _ _ (HQ.out.cells HS.out) ?_
                    have hHeld := HQ.out.cells HS.out
                    clear hK K
                    simp only [Act.put, List.setIfInBounds_toArray, List.set_cons_zero, List.set_cons_succ]
                    refine held_take 5 58 (.bool false) rfl rfl (by kernel_rfl) (by kernel_rfl) (by kernel_rfl) (fun _ _ _ h => h) (by rfl) (by intro w' hSw; (try dsimp only at hSw); go_simp; (try (with_reducible rfl))) (by assumption) ?_
                    simp only [Act.put, List.setIfInBounds_toArray, List.set_cons_zero, List.set_cons_succ]
                    refine held_take 6 59 (.pointer (some ⟨w.heap.size, 0, none⟩)) rfl rfl (by kernel_rfl) (by kernel_rfl) (by kernel_rfl) (fun _ _ _ h => h) (by rfl) (by intro w' hSw; (try dsimp only at hSw); go_simp; (try (with_reducible rfl))) (by assumption) ?_
                    simp only [Act.put, List.setIfInBounds_toArray, List.set_cons_zero, List.set_cons_succ]
                    refine held_take 7 60 (.string a.id) rfl rfl (by kernel_rfl) (by kernel_rfl) (by kernel_rfl) (fun _ _ _ h => h) (by rfl) (by intro w' hSw; (try dsimp only at hSw); go_simp; (try (with_reducible rfl))) (by assumption) ?_
                    simp only [Act.put, List.setIfInBounds_toArray, List.set_cons_zero, List.set_cons_succ]
                    refine held_take 8 61 (.pointer (some ⟨w.heap.size + 1, 0, none⟩)) rfl rfl (by kernel_rfl) (by kernel_rfl) (by kernel_rfl) (fun _ _ _ h => h) (by rfl) (by intro w' hSw; (try dsimp only at hSw); go_simp; (try (with_reducible rfl))) (by assumption) ?_
                    simp only [Act.put, List.setIfInBounds_toArray, List.set_cons_zero, List.set_cons_succ]
                    refine held_take 9 62 (.string b.id) rfl rfl (by kernel_rfl) (by kernel_rfl) (by kernel_rfl) (fun _ _ _ h => h) (by rfl) (by intro w' hSw; (try dsimp only at hSw); go_simp; (try (with_reducible rfl))) (by assumption) ?_
                    simp only [Act.put, List.setIfInBounds_toArray, List.set_cons_zero, List.set_cons_succ]
                    refine held_take 10 63 (.bool true) rfl rfl (by kernel_rfl) (by kernel_rfl) (by kernel_rfl) (fun _ _ _ h => h) (by rfl) (by intro w' hSw; (try dsimp only at hSw); go_simp; (first | done | with_reducible rfl | simpa using hne)) (by assumption) ?_
                    simp only [Act.put, List.setIfInBounds_toArray, List.set_cons_zero, List.set_cons_succ]
                    refine held_take 11 64 (.bool true) rfl rfl (by kernel_rfl) (by kernel_rfl) (by kernel_rfl) (fun _ _ _ h => h) (by rfl) (by intro w' hSw; (try dsimp only at hSw); go_simp; (try (with_reducible rfl))) (by assumption) ?_
                    simp only [Act.put, List.setIfInBounds_toArray, List.set_cons_zero, List.set_cons_succ]
                    refine held_take 12 65 (.int .i64 k) rfl rfl (by kernel_rfl) (by kernel_rfl) (by kernel_rfl) (fun _ _ _ h => h) (by rfl) (by intro w' hSw; (try dsimp only at hSw); go_simp; (try (with_reducible rfl))) (by assumption) ?_
                    simp only [Act.put, List.setIfInBounds_toArray, List.set_cons_zero, List.set_cons_succ]
                    refine held_take 13 66 (.agg #[.string a.id, .int .i64 a.prio, .bool a.crit, .int .i64 a.q0, .int .i64 a.q1, .int .i64 a.q2, .int .i64 a.l0, .int .i64 a.l1, .int .i64 a.l2, .string a.image, .int .i64 a.size]) rfl rfl (by kernel_rfl) (by kernel_rfl) (by kernel_rfl) (fun _ _ _ h => h) (by rfl) (by intro w' hSw; (try dsimp only at hSw); go_simp; (try (with_reducible rfl))) (by assumption) ?_
                    simp only [Act.put, List.setIfInBounds_toArray, List.set_cons_zero, List.set_cons_succ]
                    refine held_take 14 67 (.agg #[.string b.id, .int .i64 b.prio, .bool b.crit, .int .i64 b.q0, .int .i64 b.q1, .int .i64 b.q2, .int .i64 b.l0, .int .i64 b.l1, .int .i64 b.l2, .string b.image, .int .i64 b.size]) rfl rfl (by kernel_rfl) (by kernel_rfl) (by kernel_rfl) (fun _ _ _ h => h) (by rfl) (by intro w' hSw; (try dsimp only at hSw); go_simp; (try (with_reducible rfl))) (by assumption) ?_
                    simp only [Act.put, List.setIfInBounds_toArray, List.set_cons_zero, List.set_cons_succ]
                    refine held_take 15 68 (.agg #[.int .i64 r.time, .int .i64 V0, .int .i64 V1, .int .i64 V2, .slice AU us.length cU]) rfl rfl (by kernel_rfl) (by kernel_rfl) (by kernel_rfl) (fun _ _ _ h => h) (by rfl) (by intro w' hSw; (try dsimp only at hSw); go_simp; (try (with_reducible rfl))) (by assumption) ?_
                    simp only [Act.put, List.setIfInBounds_toArray, List.set_cons_zero, List.set_cons_succ]
                    refine held_take 17 70 (.int .i64 k) rfl rfl (by kernel_rfl) (by kernel_rfl) (by kernel_rfl) (fun _ _ _ h => h) (by rfl) (by intro w' hSw; (try dsimp only at hSw); go_simp; (try (with_reducible rfl))) (by assumption) ?_
                    simp only [Act.put, List.setIfInBounds_toArray, List.set_cons_zero, List.set_cons_succ]
                    refine held_take 18 71 (.agg #[.string b.id, .int .i64 b.prio, .bool b.crit, .int .i64 b.q0, .int .i64 b.q1, .int .i64 b.q2, .int .i64 b.l0, .int .i64 b.l1, .int .i64 b.l2, .string b.image, .int .i64 b.size]) rfl rfl (by kernel_rfl) (by kernel_rfl) (by kernel_rfl) (fun _ _ _ h => h) (by rfl) (by intro w' hSw; (try dsimp only at hSw); go_simp; (try (with_reducible rfl))) (by assumption) ?_
                    simp only [Act.put, List.setIfInBounds_toArray, List.set_cons_zero, List.set_cons_succ]
                    refine held_take 19 72 (.agg #[.string a.id, .int .i64 a.prio, .bool a.crit, .int .i64 a.q0, .int .i64 a.q1, .int .i64 a.q2, .int .i64 a.l0, .int .i64 a.l1, .int .i64 a.l2, .string a.image, .int .i64 a.size]) rfl rfl (by kernel_rfl) (by kernel_rfl) (by kernel_rfl) (fun _ _ _ h => h) (by rfl) (by intro w' hSw; (try dsimp only at hSw); go_simp; (try (with_reducible rfl))) (by assumption) ?_
                    simp only [Act.put, List.setIfInBounds_toArray, List.set_cons_zero, List.set_cons_succ]
                    refine held_take 20 73 (.agg #[.int .i64 r.time, .int .i64 V0, .int .i64 V1, .int .i64 V2, .slice AU us.length cU]) rfl rfl (by kernel_rfl) (by kernel_rfl) (by kernel_rfl) (fun _ _ _ h => h) (by rfl) (by intro w' hSw; (try dsimp only at hSw); go_simp; (try (with_reducible rfl))) (by assumption) ?_
                    simp only [Act.put, List.setIfInBounds_toArray, List.set_cons_zero, List.set_cons_succ]
                    refine held_call 16 69 rfl rfl (by kernel_rfl) (by rfl) (fun K hK => ?_)
                    go_simp
                    go_at_call 15; with_reducible refine (aheadS (s := (⟨r.time, V0, V1, V2, AU, us, cU⟩ : Sp)) HKK.out Hv.out HS.out HU.out HAR.out HBR.out).mono ?_; rintro e v1 ⟨rfl, hb⟩; have HQ := Lib.hid (HQ.out.below hb); have HS := Lib.hid (HS.out.below hb); clear hb
                    refine hK _ _ (HQ.out.cells HS.out) ?_
                    have hHeld := HQ.out.cells HS.out
                    clear hK K
                    simp only [Act.put, List.setIfInBounds_toArray, List.set_cons_zero, List.set_cons_succ]
                    refine held_call 21 74 rfl rfl (by kernel_rfl) (by rfl) (fun K hK => ?_)
                    go_simp
                    go_at_call 15; with_reducible refine (aheadS (s := (⟨r.time, V0, V1, V2, AU, us, cU⟩ : Sp)) HKK.out Hv2.out HS.out HU.out HBR.out HAR.out).mono ?_; rintro e v1 ⟨rfl, hb⟩; have HQ := Lib.hid (HQ.out.below hb); have HS := Lib.hid (HS.out.below hb); clear hb
                    refine hK _ _ (HQ.out.cells HS.out) ?_
                    have hHeld := HQ.out.cells HS.out
                    clear hK K
                    simp only [Act.put, List.setIfInBounds_toArray, List.set_cons_zero, List.set_cons_succ]
                    refine held_take 22 75 (.bool false) rfl rfl (by kernel_rfl) (by kernel_rfl) (by kernel_rfl) (fun _ _ _ h => h) (by rfl) (by intro w' hSw; (try dsimp only at hSw); go_simp; (try (with_reducible rfl))) (by assumption) ?_
                    simp only [Act.put, List.setIfInBounds_toArray, List.set_cons_zero, List.set_cons_succ]
                    refine held_take 23 76 (.bool false) rfl rfl (by kernel_rfl) (by kernel_rfl) (by kernel_rfl) (fun _ _ _ h => h) (by rfl) (by intro w' hSw; (try dsimp only at hSw); go_simp; (try (with_reducible rfl))) (by assumption) ?_
                    simp only [Act.put, List.setIfInBounds_toArray, List.set_cons_zero, List.set_cons_succ]
                    refine held_take 24 77 (.bool false) rfl rfl (by kernel_rfl) (by kernel_rfl) (by kernel_rfl) (fun _ _ _ h => h) (by rfl) (by intro w' hSw; (try dsimp only at hSw); go_simp; (try (with_reducible rfl))) (by assumption) ?_
                    simp only [Act.put, List.setIfInBounds_toArray, List.set_cons_zero, List.set_cons_succ]
                    refine wpAnyH_done (by kernel_rfl) ?_ _
                    go_wp2_with fail
                    go_meet
                    exact ⟨rfl, HQ.out, HS.out⟩
              case rest =>
                obtain ⟨rfl, hq, hs⟩ := hcut
                have HQ := Lib.hid hq
                have HS := Lib.hid hs
                clear hq hs HQd HSd
                have cpa := HQ.out.pa.cell
                have cpb := HQ.out.pb.cell
                have cpc := HQ.out.pc.cell
                have csm := HS.out.smp.cell
                cases hab : aheadB k a b us
                · have Hab := Lib.hid hab
                  clear hab
                  go_wp2_with fail
                  with_reducible refine (aheadS (s := (⟨r.time, V0, V1, V2, AU, us, cU⟩ : Sp)) HKK.out Hab.out HS.out HU.out HAR.out HBR.out).mono ?_; rintro e v2 ⟨rfl, hb⟩
                  have HQ := Lib.hid (HQ.out.below hb)
                  clear hb cpa cpb cpc csm
                  go_wp2_with fail
                  go_ret
                  exact ⟨rfl, HQ.out.bel⟩
                · have Hab := Lib.hid hab
                  clear hab
                  go_wp2_with fail
                  with_reducible refine (aheadS (s := (⟨r.time, V0, V1, V2, AU, us, cU⟩ : Sp)) HKK.out Hab.out HS.out HU.out HAR.out HBR.out).mono ?_; rintro e v2 ⟨rfl, hb⟩
                  have HQ := Lib.hid (HQ.out.below hb)
                  have HS := Lib.hid (HS.out.below hb)
                  clear hb cpa cpb cpc csm
                  have cpa := HQ.out.pa.cell
                  have cpb := HQ.out.pb.cell
                  have cpc := HQ.out.pc.cell
                  have csm := HS.out.smp.cell
                  cases hbc : aheadB k b c us
                  · have Hbc := Lib.hid hbc
                    clear hbc
                    go_wp2_with fail
                    with_reducible refine (aheadS (s := (⟨r.time, V0, V1, V2, AU, us, cU⟩ : Sp)) HKK.out Hbc.out HS.out HU.out HBR.out HCR.out).mono ?_; rintro e v2 ⟨rfl, hb⟩
                    have HQ := Lib.hid (HQ.out.below hb)
                    clear hb cpa cpb cpc csm
                    go_wp2_with fail
                    go_ret
                    exact ⟨rfl, HQ.out.bel⟩
                  · have Hac := Lib.hid (ahead_trans Hab.out hbc)
                    have Hbc := Lib.hid hbc
                    clear hbc
                    go_wp2_with fail
                    with_reducible refine (aheadS (s := (⟨r.time, V0, V1, V2, AU, us, cU⟩ : Sp)) HKK.out Hbc.out HS.out HU.out HBR.out HCR.out).mono ?_; rintro e v2 ⟨rfl, hb⟩
                    have HQ := Lib.hid (HQ.out.below hb)
                    have HS := Lib.hid (HS.out.below hb)
                    clear hb cpa cpb cpc csm
                    have cpa := HQ.out.pa.cell
                    have cpb := HQ.out.pb.cell
                    have cpc := HQ.out.pc.cell
                    have csm := HS.out.smp.cell
                    go_wp2_with fail
                    with_reducible refine (aheadS (s := (⟨r.time, V0, V1, V2, AU, us, cU⟩ : Sp)) HKK.out Hac.out HS.out HU.out HAR.out HCR.out).mono ?_; rintro e v2 ⟨rfl, hb⟩
                    have HQ := Lib.hid (HQ.out.below hb)
                    clear hb cpa cpb cpc csm
                    go_wp2_with fail
                    go_ret
                    exact ⟨rfl, HQ.out.bel⟩
end Go.Proofs.Ytlnpmdchhmbblaa
