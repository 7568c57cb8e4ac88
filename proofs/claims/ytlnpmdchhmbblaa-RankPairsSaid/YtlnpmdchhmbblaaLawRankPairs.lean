/- bilgelaw20.RankPairs: what each asked for, which one goes ahead; whether each may go, in whatever phase. -/
import Derived.Test.YtlnpmdchhmbblaaRankLaw
namespace Go.Proofs.Ytlnpmdchhmbblaa
open Go.RowKit
structure OP (a b : Pd) (r : Rw) (w W : World) : Prop where
  pa : Blk W (w.heap.size) 24 a.cells
  pb : Blk W (w.heap.size + 1) 24 b.cells
  rw : Blk W (w.heap.size + 1 + 1) 44 r.cells
  wf : r.Wf W
  bel : Below w.heap.size w W
theorem OP.below {a b : Pd} {r : Rw} {w W W' : World} (h : OP a b r w W) (hb : Below W.heap.size W W') : OP a b r w W' := ⟨h.pa.belowAll hb, h.pb.belowAll hb, h.rw.belowAll hb, h.wf.below hb, h.bel.trans (hb.mono h.bel.size)⟩
theorem OP.alloc {a b : Pd} {r : Rw} {w W : World} (h : OP a b r w W) (o : Obj) : OP a b r w (W.alloc o) := ⟨h.pa.alloc o, h.pb.alloc o, h.rw.alloc o, h.wf.below ((Below.refl _ _).alloc (Nat.le_refl _) o), h.bel.alloc h.bel.size o⟩
theorem OP.drew {a b : Pd} {r : Rw} {w W : World} (h : OP a b r w W) : OP a b r w W.drew := ⟨h.pa.drew, h.pb.drew, h.rw.drew, h.wf.below (Below.refl _ _).drew, h.bel.drew⟩
theorem OP.new (a b : Pd) (r : Rw) (w : World) (h : r.Wf w) : OP a b r w (((w.alloc (.cells a.cells 24)).alloc (.cells b.cells 24)).alloc (.cells r.cells 44)) := by
  have z1 : (w.alloc (.cells a.cells 24)).heap.size = w.heap.size + 1 := by simp
  have z2 : ((w.alloc (.cells a.cells 24)).alloc (.cells b.cells 24)).heap.size = w.heap.size + 1 + 1 := by simp
  have b0 := Blk.new w 24 a.cells
  have b1 := Blk.new (w.alloc (.cells a.cells 24)) 24 b.cells
  rw [z1] at b1
  have b2 := Blk.new ((w.alloc (.cells a.cells 24)).alloc (.cells b.cells 24)) 44 r.cells
  rw [z2] at b2
  have bel : Below w.heap.size w (((w.alloc (.cells a.cells 24)).alloc (.cells b.cells 24)).alloc (.cells r.cells 44)) := (((Below.refl w.heap.size w).alloc (Nat.le_refl _) _).alloc (by rw [z1]; omega) _).alloc (by rw [z2]; omega) _
  exact ⟨((b0.alloc _).alloc _), (b1.alloc _), b2, h.below bel, bel⟩
/-- and the sample's box, and the entry's -/
structure OE (a b : Pd) (r : Rw) (s : Sp) (ph : Int) (n m : Nat) (w W : World) : Prop where
  q : OP a b r w W
  sb : SB s n W
  en : Blk W m 48 #[.string a.id, .int .i64 a.prio, .bool a.crit, .int .i64 a.q0, .int .i64 a.q1, .int .i64 a.q2, .int .i64 a.l0, .int .i64 a.l1, .int .i64 a.l2, .string a.image, .int .i64 a.size, .int .i64 ph]
theorem OE.below {a b : Pd} {r : Rw} {s : Sp} {ph : Int} {n m : Nat} {w W W' : World} (h : OE a b r s ph n m w W) (hb : Below W.heap.size W W') : OE a b r s ph n m w W' := ⟨h.q.below hb, h.sb.below hb, h.en.belowAll hb⟩
theorem OE.drew {a b : Pd} {r : Rw} {s : Sp} {ph : Int} {n m : Nat} {w W : World} (h : OE a b r s ph n m w W) : OE a b r s ph n m w W.drew := ⟨h.q.drew, h.sb.drew, h.en.drew⟩
theorem OE.cells {a b : Pd} {r : Rw} {s : Sp} {ph : Int} {n m : Nat} {w W : World} (h : OE a b r s ph n m w W) : W.cell? ⟨w.heap.size, 0, none⟩ = some (.string a.id) ∧ W.cell? ⟨w.heap.size, 1, none⟩ = some (.int .i64 a.prio) ∧ W.cell? ⟨w.heap.size, 2, none⟩ = some (.bool a.crit) ∧ W.cell? ⟨w.heap.size, 3, none⟩ = some (.int .i64 a.q0) ∧ W.cell? ⟨w.heap.size, 4, none⟩ = some (.int .i64 a.q1) ∧ W.cell? ⟨w.heap.size, 5, none⟩ = some (.int .i64 a.q2) ∧ W.cell? ⟨w.heap.size, 6, none⟩ = some (.int .i64 a.l0) ∧ W.cell? ⟨w.heap.size, 7, none⟩ = some (.int .i64 a.l1) ∧ W.cell? ⟨w.heap.size, 8, none⟩ = some (.int .i64 a.l2) ∧ W.cell? ⟨w.heap.size, 9, none⟩ = some (.string a.image) ∧ W.cell? ⟨w.heap.size, 10, none⟩ = some (.int .i64 a.size) ∧ W.cell? ⟨w.heap.size + 1, 0, none⟩ = some (.string b.id) ∧ W.cell? ⟨w.heap.size + 1, 1, none⟩ = some (.int .i64 b.prio) ∧ W.cell? ⟨w.heap.size + 1, 2, none⟩ = some (.bool b.crit) ∧ W.cell? ⟨w.heap.size + 1, 3, none⟩ = some (.int .i64 b.q0) ∧ W.cell? ⟨w.heap.size + 1, 4, none⟩ = some (.int .i64 b.q1) ∧ W.cell? ⟨w.heap.size + 1, 5, none⟩ = some (.int .i64 b.q2) ∧ W.cell? ⟨w.heap.size + 1, 6, none⟩ = some (.int .i64 b.l0) ∧ W.cell? ⟨w.heap.size + 1, 7, none⟩ = some (.int .i64 b.l1) ∧ W.cell? ⟨w.heap.size + 1, 8, none⟩ = some (.int .i64 b.l2) ∧ W.cell? ⟨w.heap.size + 1, 9, none⟩ = some (.string b.image) ∧ W.cell? ⟨w.heap.size + 1, 10, none⟩ = some (.int .i64 b.size) ∧ W.cell? ⟨n, 0, none⟩ = some (.int .i64 s.time) ∧ W.cell? ⟨n, 1, none⟩ = some (.int .i64 s.v0) ∧ W.cell? ⟨n, 2, none⟩ = some (.int .i64 s.v1) ∧ W.cell? ⟨n, 3, none⟩ = some (.int .i64 s.v2) ∧ W.cell? ⟨n, 4, none⟩ = some (.slice s.A s.uses.length s.c) ∧ W.cell? ⟨m, 0, none⟩ = some (.string a.id) ∧ W.cell? ⟨m, 1, none⟩ = some (.int .i64 a.prio) ∧ W.cell? ⟨m, 2, none⟩ = some (.bool a.crit) ∧ W.cell? ⟨m, 3, none⟩ = some (.int .i64 a.q0) ∧ W.cell? ⟨m, 4, none⟩ = some (.int .i64 a.q1) ∧ W.cell? ⟨m, 5, none⟩ = some (.int .i64 a.q2) ∧ W.cell? ⟨m, 6, none⟩ = some (.int .i64 a.l0) ∧ W.cell? ⟨m, 7, none⟩ = some (.int .i64 a.l1) ∧ W.cell? ⟨m, 8, none⟩ = some (.int .i64 a.l2) ∧ W.cell? ⟨m, 9, none⟩ = some (.string a.image) ∧ W.cell? ⟨m, 10, none⟩ = some (.int .i64 a.size) ∧ W.cell? ⟨m, 11, none⟩ = some (.int .i64 ph) :=
  ⟨h.q.pa.cell 0, h.q.pa.cell 1, h.q.pa.cell 2, h.q.pa.cell 3, h.q.pa.cell 4, h.q.pa.cell 5, h.q.pa.cell 6, h.q.pa.cell 7, h.q.pa.cell 8, h.q.pa.cell 9, h.q.pa.cell 10, h.q.pb.cell 0, h.q.pb.cell 1, h.q.pb.cell 2, h.q.pb.cell 3, h.q.pb.cell 4, h.q.pb.cell 5, h.q.pb.cell 6, h.q.pb.cell 7, h.q.pb.cell 8, h.q.pb.cell 9, h.q.pb.cell 10, h.sb.smp.cell 0, h.sb.smp.cell 1, h.sb.smp.cell 2, h.sb.smp.cell 3, h.sb.smp.cell 4, h.en.cell 0, h.en.cell 1, h.en.cell 2, h.en.cell 3, h.en.cell 4, h.en.cell 5, h.en.cell 6, h.en.cell 7, h.en.cell 8, h.en.cell 9, h.en.cell 10, h.en.cell 11⟩
set_option maxRecDepth 100000 in
set_option maxHeartbeats 16000000 in
theorem rankPairs_any (n : UInt8) (a b : Pd) (r : Rw) (ph : Int) (ha : a.Wf) (hb : b.Wf) (w : World) (hr : r.Wf w) :
    Calls Try.prog 5 #[.int .u8 n.toNat, .agg a.cells, .agg b.cells, .agg r.cells, .int .i64 ph] w fun e w' => e = .returned (.bool true) ∧ Below w.heap.size w w' := by
  have mixed : Try.prog.follows Departure.mixedOrders = true := by kernel_rfl
  have HQ := Lib.hid (OP.new a b r w hr)
  have HA := Lib.hid ha
  have HB := Lib.hid hb
  clear ha hb hr
  go_enter Try.func5, Try.ntmps5
  go_wp2_with fail
  refine (awake20_any _).mono ?_; rintro e w1 ⟨rfl, hb⟩
  have HQ := Lib.hid (HQ.out.below hb)
  clear hb
  have cpa := HQ.out.pa.cell
  cases hsa : a.small
  · go_wp2_with fail
    refine (smallV_any hsa _).mono ?_; rintro e wv ⟨rfl, hb⟩
    have HQ := Lib.hid (HQ.out.below hb)
    clear hb cpa
    clear hsa
    go_wp2_with fail
    refine (awake20_any _).mono ?_; rintro e w9 ⟨rfl, hb⟩
    have HQ := Lib.hid (HQ.out.below hb)
    clear hb
    go_wp2_with fail
    go_ret
    exact ⟨rfl, HQ.out.bel⟩
  · go_wp2_with fail
    refine (smallV_any hsa _).mono ?_; rintro e wv ⟨rfl, hb⟩
    have HQ := Lib.hid (HQ.out.below hb)
    clear hb cpa
    have Hhsa := Lib.hid hsa
    clear hsa
    have cpb := HQ.out.pb.cell
    cases hsb : b.small
    · go_wp2_with fail
      refine (smallV_any hsb _).mono ?_; rintro e wv ⟨rfl, hb⟩
      have HQ := Lib.hid (HQ.out.below hb)
      clear hb cpb
      clear hsb
      go_wp2_with fail
      refine (awake20_any _).mono ?_; rintro e w9 ⟨rfl, hb⟩
      have HQ := Lib.hid (HQ.out.below hb)
      clear hb
      go_wp2_with fail
      go_ret
      exact ⟨rfl, HQ.out.bel⟩
    · go_wp2_with fail
      refine (smallV_any hsb _).mono ?_; rintro e wv ⟨rfl, hb⟩
      have HQ := Lib.hid (HQ.out.below hb)
      clear hb cpb
      have Hhsb := Lib.hid hsb
      clear hsb
      have cpa := HQ.out.pa.cell
      cases hra : a.right
      · go_wp2_with fail
        refine (rightV_any hra _ HA.out).mono ?_; rintro e wv ⟨rfl, hb⟩
        have HQ := Lib.hid (HQ.out.below hb)
        clear hb cpa
        clear hra
        go_wp2_with fail
        refine (awake20_any _).mono ?_; rintro e w9 ⟨rfl, hb⟩
        have HQ := Lib.hid (HQ.out.below hb)
        clear hb
        go_wp2_with fail
        go_ret
        exact ⟨rfl, HQ.out.bel⟩
      · go_wp2_with fail
        refine (rightV_any hra _ HA.out).mono ?_; rintro e wv ⟨rfl, hb⟩
        have HQ := Lib.hid (HQ.out.below hb)
        clear hb cpa
        have Hhra := Lib.hid hra
        clear hra
        have cpb := HQ.out.pb.cell
        cases hrb : b.right
        · go_wp2_with fail
          refine (rightV_any hrb _ HB.out).mono ?_; rintro e wv ⟨rfl, hb⟩
          have HQ := Lib.hid (HQ.out.below hb)
          clear hb cpb
          clear hrb
          go_wp2_with fail
          refine (awake20_any _).mono ?_; rintro e w9 ⟨rfl, hb⟩
          have HQ := Lib.hid (HQ.out.below hb)
          clear hb
          go_wp2_with fail
          go_ret
          exact ⟨rfl, HQ.out.bel⟩
        · go_wp2_with fail
          refine (rightV_any hrb _ HB.out).mono ?_; rintro e wv ⟨rfl, hb⟩
          have HQ := Lib.hid (HQ.out.below hb)
          clear hb cpb
          have Hhrb := Lib.hid hrb
          clear hrb
          have crw := HQ.out.rw.cell
          cases hfr : fewR r.uses
          · go_wp2_with fail
            refine (fewW_any hfr HQ.out.wf).mono ?_; rintro e wv ⟨rfl, hb⟩
            have HQ := Lib.hid (HQ.out.below hb)
            clear hb crw
            clear hfr
            go_wp2_with fail
            refine (awake20_any _).mono ?_; rintro e w9 ⟨rfl, hb⟩
            have HQ := Lib.hid (HQ.out.below hb)
            clear hb
            go_wp2_with fail
            go_ret
            exact ⟨rfl, HQ.out.bel⟩
          · go_wp2_with fail
            refine (fewW_any hfr HQ.out.wf).mono ?_; rintro e wv ⟨rfl, hb⟩
            have HQ := Lib.hid (HQ.out.below hb)
            clear hb crw
            have Hhfr := Lib.hid hfr
            clear hfr
            by_cases hp1 : ph < 1
            · have d1 : decide (ph < 1) = true := decide_eq_true hp1
              have crw := HQ.out.rw.cell
              by_cases hr : RightR r
              rotate_left
              · go_wp2_with fail
                refine (rightN_any hr HQ.out.wf).mono ?_; rintro e wv ⟨rfl, hb⟩
                have HQ := Lib.hid (HQ.out.below hb)
                clear hb crw
                clear hr
                go_wp2_with fail
                refine (awake20_any _).mono ?_; rintro e w9 ⟨rfl, hb⟩
                have HQ := Lib.hid (HQ.out.below hb)
                clear hb
                go_wp2_with fail
                go_ret
                exact ⟨rfl, HQ.out.bel⟩
              · go_wp2_with fail
                refine (rightY_any hr HQ.out.wf).mono ?_; rintro e wv ⟨rfl, hb⟩
                have HQ := Lib.hid (HQ.out.below hb)
                clear hb crw
                have Hhr := Lib.hid hr
                clear hr
                go_wp2_with fail
                refine (awake20_any _).mono ?_; rintro e w9 ⟨rfl, hb⟩
                have HQ := Lib.hid (HQ.out.below hb)
                clear hb
                go_wp2_with fail
                go_ret
                exact ⟨rfl, HQ.out.bel⟩
            have d1 : decide (ph < 1) = false := decide_eq_false hp1
            by_cases hp3 : 3 < ph
            · have d3 : decide (3 < ph) = true := decide_eq_true hp3
              have crw := HQ.out.rw.cell
              by_cases hr : RightR r
              rotate_left
              · go_wp2_with fail
                refine (rightN_any hr HQ.out.wf).mono ?_; rintro e wv ⟨rfl, hb⟩
                have HQ := Lib.hid (HQ.out.below hb)
                clear hb crw
                clear hr
                go_wp2_with fail
                refine (awake20_any _).mono ?_; rintro e w9 ⟨rfl, hb⟩
                have HQ := Lib.hid (HQ.out.below hb)
                clear hb
                go_wp2_with fail
                go_ret
                exact ⟨rfl, HQ.out.bel⟩
              · go_wp2_with fail
                refine (rightY_any hr HQ.out.wf).mono ?_; rintro e wv ⟨rfl, hb⟩
                have HQ := Lib.hid (HQ.out.below hb)
                clear hb crw
                have Hhr := Lib.hid hr
                clear hr
                go_wp2_with fail
                refine (awake20_any _).mono ?_; rintro e w9 ⟨rfl, hb⟩
                have HQ := Lib.hid (HQ.out.below hb)
                clear hb
                go_wp2_with fail
                go_ret
                exact ⟨rfl, HQ.out.bel⟩
            have d3 : decide (3 < ph) = false := decide_eq_false hp3
            have crw := HQ.out.rw.cell
            by_cases hr : RightR r
            rotate_left
            · go_wp2_with fail
              refine (rightN_any hr HQ.out.wf).mono ?_; rintro e wv ⟨rfl, hb⟩
              have HQ := Lib.hid (HQ.out.below hb)
              clear hb crw
              clear hr
              go_wp2_with fail
              refine (awake20_any _).mono ?_; rintro e w9 ⟨rfl, hb⟩
              have HQ := Lib.hid (HQ.out.below hb)
              clear hb
              go_wp2_with fail
              go_ret
              exact ⟨rfl, HQ.out.bel⟩
            · go_wp2_with fail
              refine (rightY_any hr HQ.out.wf).mono ?_; rintro e wv ⟨rfl, hb⟩
              have HQ := Lib.hid (HQ.out.below hb)
              clear hb crw
              have Hhr := Lib.hid hr
              clear hr
              obtain ⟨k, hk⟩ : ∃ k : Int, (n.toNat : Int) % 3 = k := ⟨_, rfl⟩
              have HKK : Hid (k = 0 ∨ k = 1 ∨ k = 2) := by show _ ∨ _; rw [← hk]; exact signal_cases n
              have HSG := Lib.hid (fun W => signalV hk W)
              clear hk
              obtain ⟨V0, HV0⟩ : ∃ V, Hid (readN r.v0 = V) := ⟨_, Lib.hid rfl⟩
              obtain ⟨V1, HV1⟩ : ∃ V, Hid (readN r.v1 = V) := ⟨_, Lib.hid rfl⟩
              obtain ⟨V2, HV2⟩ : ∃ V, Hid (readN r.v2 = V) := ⟨_, Lib.hid rfl⟩
              obtain ⟨us, HUS⟩ : ∃ us, Hid (readUses r.uses = us) := ⟨_, Lib.hid rfl⟩
              have HU : Hid (UsOk k us) := by show UsOk k us; rw [← HUS.out]; exact usOk_raw Hhr.out k
              go_wp2_with fail
              refine (HSG.out _).mono ?_; rintro e wk ⟨rfl, rfl⟩
              have crw := HQ.out.rw.cell
              go_wp2_with fail
              refine (readW_any HV0.out HV1.out HV2.out HUS.out Hhr.out HQ.out.wf).mono ?_; rintro e wr ⟨AU, cU, rfl, hO, hb⟩
              have HQ := Lib.hid (HQ.out.below hb)
              have HRU := Lib.hid hO.toRds
              clear hb hO crw HSG HV0 HV1 HV2 HUS
              have HAR : Hid (a.Wf ∧ a.right = true) := ⟨HA.out, Hhra.out⟩
              have HBR : Hid (b.Wf ∧ b.right = true) := ⟨HB.out, Hhrb.out⟩
              have HQ := Lib.hid (HQ.out.alloc (.cells #[.int .i64 r.time, .int .i64 V0, .int .i64 V1, .int .i64 V2, .slice AU us.length cU] 36))
              have HS : Hid (SB (⟨r.time, V0, V1, V2, AU, us, cU⟩ : Sp) wr.heap.size (wr.alloc (.cells #[.int .i64 r.time, .int .i64 V0, .int .i64 V1, .int .i64 V2, .slice AU us.length cU] 36))) := SB.new (⟨r.time, V0, V1, V2, AU, us, cU⟩ : Sp) wr HRU.out
              have hz : (wr.alloc (.cells #[.int .i64 r.time, .int .i64 V0, .int .i64 V1, .int .i64 V2, .slice AU us.length cU] 36)).heap.size = wr.heap.size + 1 := by simp
              have hen := Blk.new (wr.alloc (.cells #[.int .i64 r.time, .int .i64 V0, .int .i64 V1, .int .i64 V2, .slice AU us.length cU] 36)) 48 #[.string a.id, .int .i64 a.prio, .bool a.crit, .int .i64 a.q0, .int .i64 a.q1, .int .i64 a.q2, .int .i64 a.l0, .int .i64 a.l1, .int .i64 a.l2, .string a.image, .int .i64 a.size, .int .i64 ph]
              rw [hz] at hen
              have HE : Hid (OE a b r (⟨r.time, V0, V1, V2, AU, us, cU⟩ : Sp) ph wr.heap.size (wr.heap.size + 1) w ((wr.alloc (.cells #[.int .i64 r.time, .int .i64 V0, .int .i64 V1, .int .i64 V2, .slice AU us.length cU] 36)).alloc (.cells #[.string a.id, .int .i64 a.prio, .bool a.crit, .int .i64 a.q0, .int .i64 a.q1, .int .i64 a.q2, .int .i64 a.l0, .int .i64 a.l1, .int .i64 a.l2, .string a.image, .int .i64 a.size, .int .i64 ph] 48))) := ⟨HQ.out.alloc _, HS.out.alloc _, hen⟩
              have cpa := HQ.out.pa.cell
              clear HRU hz hen
              obtain ⟨qa, HQA⟩ : ∃ q, Hid (asked a k = q) := ⟨_, Lib.hid rfl⟩
              obtain ⟨vab, HVB⟩ : ∃ q, Hid (aheadB k a b us = q) := ⟨_, Lib.hid rfl⟩
              obtain ⟨vm, HVM⟩ : ∃ q, Hid (mayB ⟨a, ph⟩ = q) := ⟨_, Lib.hid rfl⟩
              go_wp2_with fail
              clear cpa HQ HS
              obtain ⟨W2, hW2⟩ : ∃ W2, W2 = ((wr.alloc (.cells #[.int .i64 r.time, .int .i64 V0, .int .i64 V1, .int .i64 V2, .slice AU us.length cU] 36)).alloc (.cells #[.string a.id, .int .i64 a.prio, .bool a.crit, .int .i64 a.q0, .int .i64 a.q1, .int .i64 a.q2, .int .i64 a.l0, .int .i64 a.l1, .int .i64 a.l2, .string a.image, .int .i64 a.size, .int .i64 ph] 48)) := ⟨_, rfl⟩
              rw [← hW2] at HE ⊢
              clear hW2
              generalize wr.heap.size + 1 = m at *
              generalize wr.heap.size = n at *
              have HE := Lib.hid HE.out.drew
              refine wp_region_held_drew (S := (fun w' => w'.cell? ⟨w.heap.size, 0, none⟩ = some (.string a.id) ∧ w'.cell? ⟨w.heap.size, 1, none⟩ = some (.int .i64 a.prio) ∧ w'.cell? ⟨w.heap.size, 2, none⟩ = some (.bool a.crit) ∧ w'.cell? ⟨w.heap.size, 3, none⟩ = some (.int .i64 a.q0) ∧ w'.cell? ⟨w.heap.size, 4, none⟩ = some (.int .i64 a.q1) ∧ w'.cell? ⟨w.heap.size, 5, none⟩ = some (.int .i64 a.q2) ∧ w'.cell? ⟨w.heap.size, 6, none⟩ = some (.int .i64 a.l0) ∧ w'.cell? ⟨w.heap.size, 7, none⟩ = some (.int .i64 a.l1) ∧ w'.cell? ⟨w.heap.size, 8, none⟩ = some (.int .i64 a.l2) ∧ w'.cell? ⟨w.heap.size, 9, none⟩ = some (.string a.image) ∧ w'.cell? ⟨w.heap.size, 10, none⟩ = some (.int .i64 a.size) ∧ w'.cell? ⟨w.heap.size + 1, 0, none⟩ = some (.string b.id) ∧ w'.cell? ⟨w.heap.size + 1, 1, none⟩ = some (.int .i64 b.prio) ∧ w'.cell? ⟨w.heap.size + 1, 2, none⟩ = some (.bool b.crit) ∧ w'.cell? ⟨w.heap.size + 1, 3, none⟩ = some (.int .i64 b.q0) ∧ w'.cell? ⟨w.heap.size + 1, 4, none⟩ = some (.int .i64 b.q1) ∧ w'.cell? ⟨w.heap.size + 1, 5, none⟩ = some (.int .i64 b.q2) ∧ w'.cell? ⟨w.heap.size + 1, 6, none⟩ = some (.int .i64 b.l0) ∧ w'.cell? ⟨w.heap.size + 1, 7, none⟩ = some (.int .i64 b.l1) ∧ w'.cell? ⟨w.heap.size + 1, 8, none⟩ = some (.int .i64 b.l2) ∧ w'.cell? ⟨w.heap.size + 1, 9, none⟩ = some (.string b.image) ∧ w'.cell? ⟨w.heap.size + 1, 10, none⟩ = some (.int .i64 b.size) ∧ w'.cell? ⟨n, 0, none⟩ = some (.int .i64 r.time) ∧ w'.cell? ⟨n, 1, none⟩ = some (.int .i64 V0) ∧ w'.cell? ⟨n, 2, none⟩ = some (.int .i64 V1) ∧ w'.cell? ⟨n, 3, none⟩ = some (.int .i64 V2) ∧ w'.cell? ⟨n, 4, none⟩ = some (.slice AU us.length cU) ∧ w'.cell? ⟨m, 0, none⟩ = some (.string a.id) ∧ w'.cell? ⟨m, 1, none⟩ = some (.int .i64 a.prio) ∧ w'.cell? ⟨m, 2, none⟩ = some (.bool a.crit) ∧ w'.cell? ⟨m, 3, none⟩ = some (.int .i64 a.q0) ∧ w'.cell? ⟨m, 4, none⟩ = some (.int .i64 a.q1) ∧ w'.cell? ⟨m, 5, none⟩ = some (.int .i64 a.q2) ∧ w'.cell? ⟨m, 6, none⟩ = some (.int .i64 a.l0) ∧ w'.cell? ⟨m, 7, none⟩ = some (.int .i64 a.l1) ∧ w'.cell? ⟨m, 8, none⟩ = some (.int .i64 a.l2) ∧ w'.cell? ⟨m, 9, none⟩ = some (.string a.image) ∧ w'.cell? ⟨m, 10, none⟩ = some (.int .i64 a.size) ∧ w'.cell? ⟨m, 11, none⟩ = some (.int .i64 ph))) (by kernel_rfl) (HE.out.cells) (fun hHeld => ?_)
              refine held_take 0 62 (.agg #[.string a.id, .int .i64 a.prio, .bool a.crit, .int .i64 a.q0, .int .i64 a.q1, .int .i64 a.q2, .int .i64 a.l0, .int .i64 a.l1, .int .i64 a.l2, .string a.image, .int .i64 a.size]) rfl rfl (by kernel_rfl) (by kernel_rfl) (by kernel_rfl) (fun _ _ _ h => h) (by rfl) (by intro w' hSw; (try dsimp only at hSw); go_simp; (try (with_reducible rfl))) (by assumption) ?_
              simp only [Act.put, List.setIfInBounds_toArray, List.set_cons_zero, List.set_cons_succ]
              refine held_take 1 63 (.int .i64 k) rfl rfl (by kernel_rfl) (by kernel_rfl) (by kernel_rfl) (fun _ _ _ h => h) (by rfl) (by intro w' hSw; (try dsimp only at hSw); go_simp; (try (with_reducible rfl))) (by assumption) ?_
              simp only [Act.put, List.setIfInBounds_toArray, List.set_cons_zero, List.set_cons_succ]
              refine held_take 3 65 (.agg #[.string a.id, .int .i64 a.prio, .bool a.crit, .int .i64 a.q0, .int .i64 a.q1, .int .i64 a.q2, .int .i64 a.l0, .int .i64 a.l1, .int .i64 a.l2, .string a.image, .int .i64 a.size]) rfl rfl (by kernel_rfl) (by kernel_rfl) (by kernel_rfl) (fun _ _ _ h => h) (by rfl) (by intro w' hSw; (try dsimp only at hSw); go_simp; (try (with_reducible rfl))) (by assumption) ?_
              simp only [Act.put, List.setIfInBounds_toArray, List.set_cons_zero, List.set_cons_succ]
              refine held_take 4 66 (.int .i64 k) rfl rfl (by kernel_rfl) (by kernel_rfl) (by kernel_rfl) (fun _ _ _ h => h) (by rfl) (by intro w' hSw; (try dsimp only at hSw); go_simp; (try (with_reducible rfl))) (by assumption) ?_
              simp only [Act.put, List.setIfInBounds_toArray, List.set_cons_zero, List.set_cons_succ]
              refine held_call 2 64 rfl rfl (by kernel_rfl) (by rfl) (fun K hK => ?_)
              go_simp
              go_at_call 20; with_reducible refine (askedW (p := a) HQA.out _).mono ?_; rintro e v1 ⟨rfl, hb⟩; have HE := Lib.hid (HE.out.below hb); clear hb
              refine hK _ _ (HE.out.cells) ?_
              have hHeld := HE.out.cells
              clear hK K
              simp only [Act.put, List.setIfInBounds_toArray, List.set_cons_zero, List.set_cons_succ]
              refine held_call 5 67 rfl rfl (by kernel_rfl) (by rfl) (fun K hK => ?_)
              go_simp
              go_at_call 21; with_reducible refine (refAskedW (p := a) HQA.out _).mono ?_; rintro e v1 ⟨rfl, hb⟩; have HE := Lib.hid (HE.out.below hb); clear hb
              refine hK _ _ (HE.out.cells) ?_
              have hHeld := HE.out.cells
              clear hK K
              simp only [Act.put, List.setIfInBounds_toArray, List.set_cons_zero, List.set_cons_succ]
              refine held_take 6 68 (.bool true) rfl rfl (by kernel_rfl) (by kernel_rfl) (by kernel_rfl) (fun _ _ _ h => h) (by rfl) (by intro w' hSw; (try dsimp only at hSw); go_simp; (first | done | with_reducible rfl | simp)) (by assumption) ?_
              simp only [Act.put, List.setIfInBounds_toArray, List.set_cons_zero, List.set_cons_succ]
              refine held_take 7 69 (.bool true) rfl rfl (by kernel_rfl) (by kernel_rfl) (by kernel_rfl) (fun _ _ _ h => h) (by rfl) (by intro w' hSw; (try dsimp only at hSw); go_simp; (try (with_reducible rfl))) (by assumption) ?_
              simp only [Act.put, List.setIfInBounds_toArray, List.set_cons_zero, List.set_cons_succ]
              refine held_take 8 70 (.int .i64 k) rfl rfl (by kernel_rfl) (by kernel_rfl) (by kernel_rfl) (fun _ _ _ h => h) (by rfl) (by intro w' hSw; (try dsimp only at hSw); go_simp; (try (with_reducible rfl))) (by assumption) ?_
              simp only [Act.put, List.setIfInBounds_toArray, List.set_cons_zero, List.set_cons_succ]
              refine held_take 9 71 (.agg #[.string a.id, .int .i64 a.prio, .bool a.crit, .int .i64 a.q0, .int .i64 a.q1, .int .i64 a.q2, .int .i64 a.l0, .int .i64 a.l1, .int .i64 a.l2, .string a.image, .int .i64 a.size]) rfl rfl (by kernel_rfl) (by kernel_rfl) (by kernel_rfl) (fun _ _ _ h => h) (by rfl) (by intro w' hSw; (try dsimp only at hSw); go_simp; (try (with_reducible rfl))) (by assumption) ?_
              simp only [Act.put, List.setIfInBounds_toArray, List.set_cons_zero, List.set_cons_succ]
              refine held_take 10 72 (.agg #[.string b.id, .int .i64 b.prio, .bool b.crit, .int .i64 b.q0, .int .i64 b.q1, .int .i64 b.q2, .int .i64 b.l0, .int .i64 b.l1, .int .i64 b.l2, .string b.image, .int .i64 b.size]) rfl rfl (by kernel_rfl) (by kernel_rfl) (by kernel_rfl) (fun _ _ _ h => h) (by rfl) (by intro w' hSw; (try dsimp only at hSw); go_simp; (try (with_reducible rfl))) (by assumption) ?_
              simp only [Act.put, List.setIfInBounds_toArray, List.set_cons_zero, List.set_cons_succ]
              refine held_take 11 73 (.agg #[.int .i64 r.time, .int .i64 V0, .int .i64 V1, .int .i64 V2, .slice AU us.length cU]) rfl rfl (by kernel_rfl) (by kernel_rfl) (by kernel_rfl) (fun _ _ _ h => h) (by rfl) (by intro w' hSw; (try dsimp only at hSw); go_simp; (try (with_reducible rfl))) (by assumption) ?_
              simp only [Act.put, List.setIfInBounds_toArray, List.set_cons_zero, List.set_cons_succ]
              refine held_take 13 75 (.int .i64 k) rfl rfl (by kernel_rfl) (by kernel_rfl) (by kernel_rfl) (fun _ _ _ h => h) (by rfl) (by intro w' hSw; (try dsimp only at hSw); go_simp; (try (with_reducible rfl))) (by assumption) ?_
              simp only [Act.put, List.setIfInBounds_toArray, List.set_cons_zero, List.set_cons_succ]
              refine held_take 14 76 (.agg #[.string a.id, .int .i64 a.prio, .bool a.crit, .int .i64 a.q0, .int .i64 a.q1, .int .i64 a.q2, .int .i64 a.l0, .int .i64 a.l1, .int .i64 a.l2, .string a.image, .int .i64 a.size]) rfl rfl (by kernel_rfl) (by kernel_rfl) (by kernel_rfl) (fun _ _ _ h => h) (by rfl) (by intro w' hSw; (try dsimp only at hSw); go_simp; (try (with_reducible rfl))) (by assumption) ?_
              simp only [Act.put, List.setIfInBounds_toArray, List.set_cons_zero, List.set_cons_succ]
              refine held_take 15 77 (.agg #[.string b.id, .int .i64 b.prio, .bool b.crit, .int .i64 b.q0, .int .i64 b.q1, .int .i64 b.q2, .int .i64 b.l0, .int .i64 b.l1, .int .i64 b.l2, .string b.image, .int .i64 b.size]) rfl rfl (by kernel_rfl) (by kernel_rfl) (by kernel_rfl) (fun _ _ _ h => h) (by rfl) (by intro w' hSw; (try dsimp only at hSw); go_simp; (try (with_reducible rfl))) (by assumption) ?_
              simp only [Act.put, List.setIfInBounds_toArray, List.set_cons_zero, List.set_cons_succ]
              refine held_take 16 78 (.agg #[.int .i64 r.time, .int .i64 V0, .int .i64 V1, .int .i64 V2, .slice AU us.length cU]) rfl rfl (by kernel_rfl) (by kernel_rfl) (by kernel_rfl) (fun _ _ _ h => h) (by rfl) (by intro w' hSw; (try dsimp only at hSw); go_simp; (try (with_reducible rfl))) (by assumption) ?_
              simp only [Act.put, List.setIfInBounds_toArray, List.set_cons_zero, List.set_cons_succ]
              refine held_call 12 74 rfl rfl (by kernel_rfl) (by rfl) (fun K hK => ?_)
              go_simp
              go_at_call 15; with_reducible refine (aheadS (s := (⟨r.time, V0, V1, V2, AU, us, cU⟩ : Sp)) HKK.out HVB.out HE.out.sb HU.out HAR.out HBR.out).mono ?_; rintro e v1 ⟨rfl, hb⟩; have HE := Lib.hid (HE.out.below hb); clear hb
              refine hK _ _ (HE.out.cells) ?_
              have hHeld := HE.out.cells
              clear hK K
              simp only [Act.put, List.setIfInBounds_toArray, List.set_cons_zero, List.set_cons_succ]
              refine held_call 17 79 rfl rfl (by kernel_rfl) (by rfl) (fun K hK => ?_)
              go_simp
              go_at_call 22; with_reducible refine (refAheadS (s := (⟨r.time, V0, V1, V2, AU, us, cU⟩ : Sp)) HKK.out HVB.out HE.out.sb HU.out HAR.out HBR.out).mono ?_; rintro e v1 ⟨rfl, hb⟩; have HE := Lib.hid (HE.out.below hb); clear hb
              refine hK _ _ (HE.out.cells) ?_
              have hHeld := HE.out.cells
              clear hK K
              simp only [Act.put, List.setIfInBounds_toArray, List.set_cons_zero, List.set_cons_succ]
              refine held_take 18 80 (.bool true) rfl rfl (by kernel_rfl) (by kernel_rfl) (by kernel_rfl) (fun _ _ _ h => h) (by rfl) (by intro w' hSw; (try dsimp only at hSw); go_simp; (first | done | with_reducible rfl | simp)) (by assumption) ?_
              simp only [Act.put, List.setIfInBounds_toArray, List.set_cons_zero, List.set_cons_succ]
              refine held_take 19 81 (.bool true) rfl rfl (by kernel_rfl) (by kernel_rfl) (by kernel_rfl) (fun _ _ _ h => h) (by rfl) (by intro w' hSw; (try dsimp only at hSw); go_simp; (try (with_reducible rfl))) (by assumption) ?_
              simp only [Act.put, List.setIfInBounds_toArray, List.set_cons_zero, List.set_cons_succ]
              refine held_take 20 82 (.bool true) rfl rfl (by kernel_rfl) (by kernel_rfl) (by kernel_rfl) (fun _ _ _ h => h) (by rfl) (by intro w' hSw; (try dsimp only at hSw); go_simp; (try (with_reducible rfl))) (by assumption) ?_
              simp only [Act.put, List.setIfInBounds_toArray, List.set_cons_zero, List.set_cons_succ]
              refine held_take 21 83 (.agg #[.string a.id, .int .i64 a.prio, .bool a.crit, .int .i64 a.q0, .int .i64 a.q1, .int .i64 a.q2, .int .i64 a.l0, .int .i64 a.l1, .int .i64 a.l2, .string a.image, .int .i64 a.size, .int .i64 ph]) rfl rfl (by kernel_rfl) (by kernel_rfl) (by kernel_rfl) (fun _ _ _ h => h) (by rfl) (by intro w' hSw; (try dsimp only at hSw); go_simp; (try (with_reducible rfl))) (by assumption) ?_
              simp only [Act.put, List.setIfInBounds_toArray, List.set_cons_zero, List.set_cons_succ]
              refine held_take 23 85 (.agg #[.string a.id, .int .i64 a.prio, .bool a.crit, .int .i64 a.q0, .int .i64 a.q1, .int .i64 a.q2, .int .i64 a.l0, .int .i64 a.l1, .int .i64 a.l2, .string a.image, .int .i64 a.size, .int .i64 ph]) rfl rfl (by kernel_rfl) (by kernel_rfl) (by kernel_rfl) (fun _ _ _ h => h) (by rfl) (by intro w' hSw; (try dsimp only at hSw); go_simp; (try (with_reducible rfl))) (by assumption) ?_
              simp only [Act.put, List.setIfInBounds_toArray, List.set_cons_zero, List.set_cons_succ]
              refine held_call 22 84 rfl rfl (by kernel_rfl) (by rfl) (fun K hK => ?_)
              go_simp
              go_at_call 23; with_reducible refine (mayW (x := ⟨a, ph⟩) HVM.out _).mono ?_; rintro e v1 ⟨rfl, hb⟩; have HE := Lib.hid (HE.out.below hb); clear hb
              refine hK _ _ (HE.out.cells) ?_
              have hHeld := HE.out.cells
              clear hK K
              simp only [Act.put, List.setIfInBounds_toArray, List.set_cons_zero, List.set_cons_succ]
              refine held_call 24 86 rfl rfl (by kernel_rfl) (by rfl) (fun K hK => ?_)
              go_simp
              go_at_call 24; with_reducible refine (refMayW (x := ⟨a, ph⟩) HVM.out _).mono ?_; rintro e v1 ⟨rfl, hb⟩; have HE := Lib.hid (HE.out.below hb); clear hb
              refine hK _ _ (HE.out.cells) ?_
              have hHeld := HE.out.cells
              clear hK K
              simp only [Act.put, List.setIfInBounds_toArray, List.set_cons_zero, List.set_cons_succ]
              refine held_take 25 87 (.bool true) rfl rfl (by kernel_rfl) (by kernel_rfl) (by kernel_rfl) (fun _ _ _ h => h) (by rfl) (by intro w' hSw; (try dsimp only at hSw); go_simp; (first | done | with_reducible rfl | simp)) (by assumption) ?_
              simp only [Act.put, List.setIfInBounds_toArray, List.set_cons_zero, List.set_cons_succ]
              refine held_take 26 88 (.bool true) rfl rfl (by kernel_rfl) (by kernel_rfl) (by kernel_rfl) (fun _ _ _ h => h) (by rfl) (by intro w' hSw; (try dsimp only at hSw); go_simp; (try (with_reducible rfl))) (by assumption) ?_
              simp only [Act.put, List.setIfInBounds_toArray, List.set_cons_zero, List.set_cons_succ]
              refine held_take 27 10 (.bool true) rfl rfl (by kernel_rfl) (by kernel_rfl) (by kernel_rfl) (fun _ _ _ h => h) (by rfl) (by intro w' hSw; (try dsimp only at hSw); go_simp; (try (with_reducible rfl))) (by assumption) ?_
              simp only [Act.put, List.setIfInBounds_toArray, List.set_cons_zero, List.set_cons_succ]
              refine wpAnyH_done (by kernel_rfl) ?_ _
              go_wp2_with fail
              go_ret
              exact ⟨rfl, HE.out.q.bel⟩
end Go.Proofs.Ytlnpmdchhmbblaa
