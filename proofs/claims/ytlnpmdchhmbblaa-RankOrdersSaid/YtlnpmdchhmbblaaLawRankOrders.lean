/- bilgelaw20.RankOrders: the order in which pods go, and the first. -/
import Derived.Test.YtlnpmdchhmbblaaRankTab
namespace Go.Proofs.Ytlnpmdchhmbblaa
open Go.RowKit
set_option maxRecDepth 100000 in
set_option maxHeartbeats 16000000 in
theorem rankOrders_any (n : UInt8) (l : List En) (A : Option Addr) (c : Nat) (r : Rw) (w : World) (ht : Rds w encN A l) (hw : ∀ x ∈ l, x.pod.Wf ∧ I64 x.phase) (hm : l.length ≤ 9223372036854775807) (hr : r.Wf w) :
    Calls Try.prog 6 #[.int .u8 n.toNat, .slice A l.length c, .agg r.cells] w fun e w' => e = .returned (.bool true) ∧ Below w.heap.size w w' := by
  have mixed : Try.prog.follows Departure.mixedOrders = true := by kernel_rfl
  have HQ := Lib.hid (OT.new l A r w hr ht)
  have HW := Lib.hid hw
  clear hw hr ht
  go_enter Try.func6, Try.ntmps6
  go_wp2_with fail
  refine (awake20_any _).mono ?_; rintro e w1 ⟨rfl, hb⟩
  have HQ := Lib.hid (HQ.out.below hb)
  clear hb
  
  by_cases hft : FitE l
  rotate_left
  · go_wp2_with fail
    refine (fitN_any hft HQ.out.tb HW.out hm).mono ?_; rintro e wv ⟨rfl, hb⟩
    have HQ := Lib.hid (HQ.out.below hb)
    clear hb 
    clear hft
    go_wp2_with fail
    refine (awake20_any _).mono ?_; rintro e w9 ⟨rfl, hb⟩
    have HQ := Lib.hid (HQ.out.below hb)
    clear hb
    go_wp2_with fail
    go_ret
    exact ⟨rfl, HQ.out.bel⟩
  · go_wp2_with fail
    refine (fitY_any hft HQ.out.tb HW.out hm).mono ?_; rintro e wv ⟨rfl, hb⟩
    have HQ := Lib.hid (HQ.out.below hb)
    clear hb 
    have Hhft := Lib.hid hft
    clear hft
    have crw := HQ.out.rw.cell
    cases hfr : fewR r.uses
    · go_wp2_with fail
      refine (fewW_any hfr HQ.out.wf).mono ?_; rintro e wv ⟨rfl, hb⟩
      have HQ := Lib.hid (HQ.out.below hb)
      clear hb crw
      clear hfr
      go_wp2_with fail
      refine (awake20_any _).mono ?_; rintro e w9 ⟨rfl, hb⟩
      have HQ := Lib.hid (HQ.out.below hb)
      clear hb
      go_wp2_with fail
      go_ret
      exact ⟨rfl, HQ.out.bel⟩
    · go_wp2_with fail
      refine (fewW_any hfr HQ.out.wf).mono ?_; rintro e wv ⟨rfl, hb⟩
      have HQ := Lib.hid (HQ.out.below hb)
      clear hb crw
      have Hhfr := Lib.hid hfr
      clear hfr
      have crw := HQ.out.rw.cell
      by_cases hr : RightR r
      rotate_left
      · go_wp2_with fail
        refine (rightN_any hr HQ.out.wf).mono ?_; rintro e wv ⟨rfl, hb⟩
        have HQ := Lib.hid (HQ.out.below hb)
        clear hb crw
        clear hr
        go_wp2_with fail
        refine (awake20_any _).mono ?_; rintro e w9 ⟨rfl, hb⟩
        have HQ := Lib.hid (HQ.out.below hb)
        clear hb
        go_wp2_with fail
        go_ret
        exact ⟨rfl, HQ.out.bel⟩
      · go_wp2_with fail
        refine (rightY_any hr HQ.out.wf).mono ?_; rintro e wv ⟨rfl, hb⟩
        have HQ := Lib.hid (HQ.out.below hb)
        clear hb crw
        have Hhr := Lib.hid hr
        clear hr
        obtain ⟨k, hk⟩ : ∃ k : Int, (n.toNat : Int) % 3 = k := ⟨_, rfl⟩
        have HKK : Hid (k = 0 ∨ k = 1 ∨ k = 2) := by show _ ∨ _; rw [← hk]; exact signal_cases n
        have HSG := Lib.hid (fun W => signalV hk W)
        clear hk
        obtain ⟨V0, HV0⟩ : ∃ V, Hid (readN r.v0 = V) := ⟨_, Lib.hid rfl⟩
        obtain ⟨V1, HV1⟩ : ∃ V, Hid (readN r.v1 = V) := ⟨_, Lib.hid rfl⟩
        obtain ⟨V2, HV2⟩ : ∃ V, Hid (readN r.v2 = V) := ⟨_, Lib.hid rfl⟩
        obtain ⟨us, HUS⟩ : ∃ us, Hid (readUses r.uses = us) := ⟨_, Lib.hid rfl⟩
        have HU : Hid (UsOk k us) := by show UsOk k us; rw [← HUS.out]; exact usOk_raw Hhr.out k
        go_wp2_with fail
        refine (HSG.out _).mono ?_; rintro e wk ⟨rfl, rfl⟩
        have crw := HQ.out.rw.cell
        go_wp2_with fail
        refine (readW_any HV0.out HV1.out HV2.out HUS.out Hhr.out HQ.out.wf).mono ?_; rintro e wr ⟨AU, cU, rfl, hO, hb⟩
        have HQ := Lib.hid (HQ.out.below hb)
        have HRU := Lib.hid hO.toRds
        clear hb hO crw HSG HV0 HV1 HV2 HUS
        have HTB := Lib.hid (Tb.of Hhft.out HW.out)
        have hlen : l.length ≤ 64 := Hhft.out.len
        have HQ := Lib.hid (HQ.out.alloc (.cells #[.int .i64 r.time, .int .i64 V0, .int .i64 V1, .int .i64 V2, .slice AU us.length cU] 36))
        have HS : Hid (SB (⟨r.time, V0, V1, V2, AU, us, cU⟩ : Sp) wr.heap.size (wr.alloc (.cells #[.int .i64 r.time, .int .i64 V0, .int .i64 V1, .int .i64 V2, .slice AU us.length cU] 36))) := SB.new (⟨r.time, V0, V1, V2, AU, us, cU⟩ : Sp) wr HRU.out
        clear HRU
        obtain ⟨O, HO⟩ : ∃ O, Hid (orderD k l us = O) := ⟨_, Lib.hid rfl⟩
        have hOl : O.length ≤ 64 := by rw [← HO.out]; exact Nat.le_trans (orderD_le k l us) hlen
        have csm := HS.out.smp.cell
        go_wp2_with fail
        refine (orderT (s := (⟨r.time, V0, V1, V2, AU, us, cU⟩ : Sp)) HKK.out HO.out HS.out HU.out HQ.out.tb (by omega) HTB.out).mono ?_; rintro e w2 ⟨Ao, co, rfl, hown, hb⟩
        have HQ := Lib.hid (HQ.out.below hb)
        have HS := Lib.hid (HS.out.below hb)
        have HRO := Lib.hid hown.toRds
        clear hb hown csm
        have csm := HS.out.smp.cell
        go_wp2_with fail
        refine (firstT (s := (⟨r.time, V0, V1, V2, AU, us, cU⟩ : Sp)) HKK.out HS.out HU.out HQ.out.tb (by omega) HTB.out).mono ?_; rintro e w3 ⟨b1, hb1, rfl, hb⟩
        have HQ := Lib.hid (HQ.out.below hb)
        have HS := Lib.hid (HS.out.below hb)
        have HRO := Lib.hid (HRO.out.below hb)
        have HB1 := Lib.hid hb1
        clear hb hb1 csm
        have csm := HS.out.smp.cell
        obtain ⟨x1, HX1⟩ : ∃ x, Hid (bestId l b1 = x) := ⟨_, Lib.hid rfl⟩
        obtain ⟨ok1, HK1⟩ : ∃ x, Hid (b1.isSome = x) := ⟨_, Lib.hid rfl⟩
        rw [HX1.out, HK1.out]
        go_wp2_with fail
        refine (refFirstT (s := (⟨r.time, V0, V1, V2, AU, us, cU⟩ : Sp)) HKK.out HS.out HU.out HQ.out.tb (by omega) HTB.out).mono ?_; rintro e w4 ⟨b2, hb2, rfl, hb⟩
        have HQ := Lib.hid (HQ.out.below hb)
        have HS := Lib.hid (HS.out.below hb)
        have HRO := Lib.hid (HRO.out.below hb)
        have HSM := Lib.hid (best_same HB1.out hb2)
        clear hb hb2 csm
        have csm := HS.out.smp.cell
        obtain ⟨z, HZ⟩ : ∃ z, Hid (bestV b2 = z) := ⟨_, Lib.hid rfl⟩
        rw [HZ.out]
        rcases HSM.out with ⟨e1, e2⟩ | ⟨j1, j2, hj1, hj2, e1, e2, hid⟩
        · subst e1 e2
          obtain rfl : ok1 = false := HK1.out.symm
          obtain rfl : x1 = ⟨#[]⟩ := HX1.out.symm
          obtain rfl : z = -1 := HZ.out.symm
          go_wp2_with fail
          refine (refOrderT (s := (⟨r.time, V0, V1, V2, AU, us, cU⟩ : Sp)) HKK.out HO.out HS.out HU.out HQ.out.tb (by omega) HTB.out).mono ?_; rintro e w5 ⟨Ap, cp, rfl, hown, hb⟩
          have HQ := Lib.hid (HQ.out.below hb)
          have HRO := Lib.hid (HRO.out.below hb)
          have HRP := Lib.hid hown.toRds
          clear hb hown csm
          go_wp2_with fail
          refine (sameY rfl HRO.out HRP.out (by omega)).mono ?_; rintro e w6 ⟨rfl, hb⟩
          have HQ := Lib.hid (HQ.out.below hb)
          clear hb
          go_wp2_with fail
          go_ret
          exact ⟨rfl, HQ.out.bel⟩
        · subst e1 e2
          obtain rfl : ok1 = true := HK1.out.symm
          obtain rfl : x1 = l[j2].pod.id := by rw [← HX1.out, ← hid, bestId_some hj1]
          obtain rfl : z = (j2 : Int) := HZ.out.symm
          clear hid hj1
          obtain ⟨b0, off, hA, _, ci, _⟩ := HQ.out.tb.en hj2
          obtain rfl : A = some ⟨b0, off, none⟩ := hA
          have dz : decide ((0 : Int) ≤ (j2 : Int)) = true := decide_eq_true (by omega)
          have dj2 : (j2 : Int) < (l.length : Int) := by omega
          generalize l[j2] = y at *
          go_wp2_with fail
          refine (refOrderT (s := (⟨r.time, V0, V1, V2, AU, us, cU⟩ : Sp)) HKK.out HO.out HS.out HU.out HQ.out.tb (by omega) HTB.out).mono ?_; rintro e w5 ⟨Ap, cp, rfl, hown, hb⟩
          have HQ := Lib.hid (HQ.out.below hb)
          have HRO := Lib.hid (HRO.out.below hb)
          have HRP := Lib.hid hown.toRds
          clear hb hown csm
          go_wp2_with fail
          refine (sameY rfl HRO.out HRP.out (by omega)).mono ?_; rintro e w6 ⟨rfl, hb⟩
          have HQ := Lib.hid (HQ.out.below hb)
          clear hb
          go_wp2_with fail
          go_ret
          exact ⟨rfl, HQ.out.bel⟩
end Go.Proofs.Ytlnpmdchhmbblaa
