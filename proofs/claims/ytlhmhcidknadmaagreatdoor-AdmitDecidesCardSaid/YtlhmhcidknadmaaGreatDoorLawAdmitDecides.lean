/- bilgelaw23.AdmitDecides: of whatever right config, table, conditions and pod: the verdict, or why there is none; the condition that bars it. -/
import Derived.Test.YtlhmhcidknadmaaGreatDoorARefDecide
namespace Go.Proofs.YtlhmhcidknadmaaGreatDoor
open Go.RowKit

def ftop (a b c : Bool) (p : Pd) : Nat → Int × Bool
  | 0 => if (a && barK p 0) = true then (0, true) else if (b && barK p 1) = true then (1, true) else if (c && barK p 2) = true then (2, true) else (0, false)
  | 1 => if (b && barK p 1) = true then (1, true) else if (c && barK p 2) = true then (2, true) else (0, false)
  | 2 => if (c && barK p 2) = true then (2, true) else (0, false)
  | _ => (0, false)
theorem ftop_0 (a b c : Bool) (p : Pd) : ftop a b c p 0 = barD a b c p := by
  cases h : p.crit <;> cases h2 : p.none3 <;> cases a <;> cases b <;> cases c <;> simp [ftop, barD, barK, h, h2]
theorem ftop_off2 {a b : Bool} {p : Pd} {u : Int × Bool} (h : ftop a b false p 3 = u) : ftop a b false p 2 = u := h
theorem ftop_off1 {a c : Bool} {p : Pd} {u : Int × Bool} (h : ftop a false c p 2 = u) : ftop a false c p 1 = u := h
theorem ftop_off0 {b c : Bool} {p : Pd} {u : Int × Bool} (h : ftop false b c p 1 = u) : ftop false b c p 0 = u := h
theorem ftop_no2 {a b : Bool} {p : Pd} {u : Int × Bool} (h : ftop a b true p 3 = u) (e : barK p 2 = false) : ftop a b true p 2 = u := by rw [← h]; simp [ftop, e]
theorem ftop_no1 {a c : Bool} {p : Pd} {u : Int × Bool} (h : ftop a true c p 2 = u) (e : barK p 1 = false) : ftop a true c p 1 = u := by rw [← h]; simp [ftop, e]
theorem ftop_no0 {b c : Bool} {p : Pd} {u : Int × Bool} (h : ftop true b c p 1 = u) (e : barK p 0 = false) : ftop true b c p 0 = u := by rw [← h]; simp [ftop, e]
theorem ftop_yes2 {a b c : Bool} {p : Pd} (e : barK p 2 = true) (hc : c = true := by rfl) : ftop a b c p 2 = (2, true) := by subst hc; simp [ftop, e]
theorem ftop_yes1 {a b c : Bool} {p : Pd} (e : barK p 1 = true) (hc : b = true := by rfl) : ftop a b c p 1 = (1, true) := by subst hc; simp [ftop, e]
theorem ftop_yes0 {a b c : Bool} {p : Pd} (e : barK p 0 = true) (hc : a = true := by rfl) : ftop a b c p 0 = (0, true) := by subst hc; simp [ftop, e]
theorem VerD.len2 {room : S3} {p : Pd} {l : List En} {a b c : Bool} {k s e : Int} {O : List ByteArray} (h : VerD room p l a b c k s O e) : O.length ≤ l.length := by
  rcases h with ⟨_, _, _, rfl, _⟩ | ⟨_, _, _, _, rfl, _⟩ | ⟨_, _, _, _, _, rfl, _⟩ | ⟨_, _, _, _, _, _, rfl, _⟩ | ⟨_, _, _, _, _, _, bb, h, _⟩
  all_goals first | (simp; done) | (have := h.len; rw [podsD_len] at this; exact this)
set_option maxRecDepth 100000 in
set_option maxHeartbeats 16000000 in
theorem admitDecides_any (f : Cf) (l : List En) (a b c : Bool) (p : Pd) (Al : Option Addr) (cl : Nat) (w : World) (hr : Rds w encN Al l) (hw : ∀ x ∈ l, x.pod.Wf ∧ I64 x.phase) (hm : l.length ≤ 9223372036854775807) (hp : p.Wf) (hrt : Rds w encT f.A f.ts) (hnt : f.ts.length ≤ 9223372036854775807) :
    Calls Tryz.prog 3 #[.agg f.cells, .slice Al l.length cl, .agg #[.bool a, .bool b, .bool c], .agg p.cells] w fun e w' => e = .returned (.bool true) ∧ Below w.heap.size w w' := by
  have mixed : Tryz.prog.follows Departure.mixedOrders = true := by kernel_rfl
  have HQ := Lib.hid (LA.new f a b c p w)
  have HR := Lib.hid hr
  have HW := Lib.hid hw
  have HPW := Lib.hid hp
  have HRT := Lib.hid hrt
  clear hr hw hp hrt
  go_enter Tryz.func3, Tryz.ntmps3
  go_wp2_with fail
  refine (awake23_any _).mono ?_; rintro e w1 ⟨rfl, hb⟩
  have HQ := Lib.hid (HQ.out.below hb)
  clear hb
  have ccf := HQ.out.cf.cell
  go_wp2_with fail
  refine (right07_any f _ (HRT.out.below HQ.out.bel) hnt).mono ?_; rintro e w2 ⟨v1, rfl, hv1, hb⟩
  have HQ := Lib.hid (HQ.out.below hb)
  have HV1 := Lib.hid hv1
  clear hb hv1 ccf
  cases v1
  · go_wp2_with fail
    refine (awake23_any _).mono ?_; rintro e w9 ⟨rfl, hb⟩
    have HQ := Lib.hid (HQ.out.below hb)
    clear hb
    go_wp2_with fail
    go_ret
    exact ⟨rfl, HQ.out.bel⟩
  have HR0 : Hid (Room0 f) := HV1.out rfl
  clear HV1
  by_cases hf : FitE l
  rotate_left
  · go_wp2_with fail
    refine (fit20V_any (v := false) (by simp [hf]) Al cl _ (HR.out.below HQ.out.bel) HW.out hm).mono ?_; rintro e w3 ⟨rfl, hb⟩
    have HQ := Lib.hid (HQ.out.below hb)
    clear hb hf
    go_wp2_with fail
    refine (awake23_any _).mono ?_; rintro e w9 ⟨rfl, hb⟩
    have HQ := Lib.hid (HQ.out.below hb)
    clear hb
    go_wp2_with fail
    go_ret
    exact ⟨rfl, HQ.out.bel⟩
  have HF := Lib.hid hf
  have hl := hf.len
  go_wp2_with fail
  refine (fit20V_any (v := true) (by simp [hf]) Al cl _ (HR.out.below HQ.out.bel) HW.out hm).mono ?_; rintro e w3 ⟨rfl, hb⟩
  have HQ := Lib.hid (HQ.out.below hb)
  clear hb hf
  have cp := HQ.out.pb.cell
  go_wp2_with fail
  obtain ⟨v3, hv3⟩ : ∃ v, p.small = v := ⟨_, rfl⟩
  have HSM := Lib.hid hv3
  clear hv3
  refine (smallV_any HSM.out _).mono ?_; rintro e w4 ⟨rfl, hb⟩
  have HQ := Lib.hid (HQ.out.below hb)
  have HRL := Lib.hid (HR.out.below HQ.out.bel)
  clear hb cp
  cases v3
  · go_wp2_with fail
    refine (awake23_any _).mono ?_; rintro e w9 ⟨rfl, hb⟩
    have HQ := Lib.hid (HQ.out.below hb)
    clear hb
    go_wp2_with fail
    go_ret
    exact ⟨rfl, HQ.out.bel⟩
  have ccf := HQ.out.cf.cell
  have con := HQ.out.on.cell
  have cp := HQ.out.pb.cell
  go_wp2_with fail
  refine (decide_any f l a b c p Al cl _ HRL.out (fun x hx => (HW.out x hx).1) hm HPW.out).mono ?_; rintro e w5 ⟨k, s, O, er, A1, c1, rfl, hv, ho, hb⟩
  have HVV := Lib.hid hv
  have HQ := Lib.hid ((HQ.out.below hb).alloc (.cells #[.int .i64 k, .int .i64 s, .slice A1 O.length c1] 36))
  have HRL := Lib.hid ((HRL.out.below hb).alloc (.cells #[.int .i64 k, .int .i64 s, .slice A1 O.length c1] 36))
  have HO1 := Lib.hid (ho.toRds.alloc (.cells #[.int .i64 k, .int .i64 s, .slice A1 O.length c1] 36))
  have HV1 := Lib.hid (Blk.new w5 36 #[.int .i64 k, .int .i64 s, .slice A1 O.length c1])
  clear hv ho hb ccf con cp
  have ccf := HQ.out.cf.cell
  have con := HQ.out.on.cell
  have cp := HQ.out.pb.cell
  go_wp2_with fail
  refine (refDecide_any HVV.out HF.out HR0.out HSM.out Al cl _ HRL.out HW.out HPW.out).mono ?_; rintro e w6 ⟨A2, c2, rfl, ho, hb⟩
  have HQ := Lib.hid ((HQ.out.below hb).alloc (.cells #[.int .i64 k, .int .i64 s, .slice A2 O.length c2] 36))
  have HO1 := Lib.hid ((HO1.out.below hb).alloc (.cells #[.int .i64 k, .int .i64 s, .slice A2 O.length c2] 36))
  have HV1 := Lib.hid ((HV1.out.belowAll hb).alloc (.cells #[.int .i64 k, .int .i64 s, .slice A2 O.length c2] 36))
  have HO2 := Lib.hid (ho.toRds.alloc (.cells #[.int .i64 k, .int .i64 s, .slice A2 O.length c2] 36))
  have HV2 := Lib.hid (Blk.new w6 36 #[.int .i64 k, .int .i64 s, .slice A2 O.length c2])
  clear ho hb ccf con cp
  have HOL := Lib.hid HVV.out.len2
  have dee : (er == er) = true := by simp
  obtain ⟨v1, hv1⟩ : ∃ v, p.right = v := ⟨_, rfl⟩
  have H1 := Lib.hid hv1
  clear hv1
  have cp := HQ.out.pb.cell
  go_wp2_with fail
  refine (rightV_any H1.out _ HPW.out).mono ?_; rintro e w7 ⟨rfl, hb⟩
  have HQ := Lib.hid (HQ.out.below hb)
  have HV1 := Lib.hid (HV1.out.belowAll hb)
  have HV2 := Lib.hid (HV2.out.belowAll hb)
  have HO1 := Lib.hid (HO1.out.below hb)
  have HO2 := Lib.hid (HO2.out.below hb)
  clear hb cp
  cases v1
  · have y1 := HV1.out.cell
    have y2 := HV2.out.cell
    go_wp2_with fail
    refine (same23_any k s O A1 A2 c1 c2 _ HO1.out HO2.out (by have := HOL.out; omega)).mono ?_; rintro e wz ⟨rfl, hb⟩
    have HQ := Lib.hid (HQ.out.below hb)
    clear hb y1 y2
    go_wp2_with fail
    go_ret
    exact ⟨rfl, HQ.out.bel⟩
  · obtain ⟨⟨sB, vB⟩, hB⟩ : ∃ v, barD a b c p = v := ⟨_, rfl⟩
    have HBD := Lib.hid hB
    have con := HQ.out.on.cell
    have cp := HQ.out.pb.cell
    clear hB
    go_wp2_with fail
    refine (barred_any a b c p _).mono ?_; rintro e w8 ⟨rfl, hb⟩
    have HQ := Lib.hid (HQ.out.below hb)
    have HV1 := Lib.hid (HV1.out.belowAll hb)
    have HV2 := Lib.hid (HV2.out.belowAll hb)
    have HO1 := Lib.hid (HO1.out.below hb)
    have HO2 := Lib.hid (HO2.out.below hb)
    clear hb con cp
    rw [HBD.out]
    dsimp only
    go_wp2_with fail
    go_loopw [15, 16, 17] (fun wa ba kk wr => ∃ (i : Nat) (z : Int) (s0 : Int) (v0 : Bool), i ≤ 3 ∧ z = (i : Int) - 1 ∧ kk = .int .i64 z ∧ ftop a b c p i = (s0, v0) ∧ wa = .int .i64 s0 ∧ ba = .bool v0 ∧ Below w8.heap.size w8 wr) (fun _ _ kk _ => (intOf kk + 1).toNat)
    case atStart => exact ⟨3, 2, 0, false, by omega, by rfl, rfl, rfl, rfl, rfl, Below.refl _ _⟩
    case round =>
      obtain ⟨i, z, s0, v0, hi, hz, rfl, hft, rfl, rfl, hbl⟩ := hrel
      have HF0 := Lib.hid hft
      have HBL := Lib.hid hbl
      clear hft hbl
      obtain rfl | rfl | rfl | rfl : i = 3 ∨ i = 2 ∨ i = 1 ∨ i = 0 := by omega
      · obtain rfl : z = 2 := by simpa using hz
        clear hz
        cases c
        · have HFT := Lib.hid (ftop_off2 HF0.out)
          have con := (HQ.out.below HBL.out).on.cell
          go_wp2_with fail
          go_roundw
          case rel => exact ⟨2, 1, _, _, by omega, by rfl, rfl, HFT.out, rfl, rfl, HBL.out⟩
          case measure => simp [intOf]
        · have con := (HQ.out.below HBL.out).on.cell
          have cp := (HQ.out.below HBL.out).pb.cell
          go_wp2_with fail
          obtain ⟨v, hv⟩ : ∃ v, barK p 2 = v := ⟨_, rfl⟩
          refine (bars2_any hv _).mono ?_; rintro e w9 ⟨rfl, hb⟩
          have HBL := Lib.hid (below_rV HBL.out hb)
          have HBK := Lib.hid hv
          clear hb con cp hv
          cases v
          · have HFT := Lib.hid (ftop_no2 HF0.out HBK.out)
            go_wp2_with fail
            go_roundw
            case rel => exact ⟨2, 1, _, _, by omega, by rfl, rfl, HFT.out, rfl, rfl, HBL.out⟩
            case measure => simp [intOf]
          · have HFT := Lib.hid (ftop_yes2 (a := a) (b := b) (c := true) HBK.out)
            go_wp2_with fail
            go_roundw
            case rel => exact ⟨2, 1, _, _, by omega, by rfl, rfl, HFT.out, rfl, rfl, HBL.out⟩
            case measure => simp [intOf]
      · obtain rfl : z = 1 := by simpa using hz
        clear hz
        cases b
        · have HFT := Lib.hid (ftop_off1 HF0.out)
          have con := (HQ.out.below HBL.out).on.cell
          go_wp2_with fail
          go_roundw
          case rel => exact ⟨1, 0, _, _, by omega, by rfl, rfl, HFT.out, rfl, rfl, HBL.out⟩
          case measure => simp [intOf]
        · have con := (HQ.out.below HBL.out).on.cell
          have cp := (HQ.out.below HBL.out).pb.cell
          go_wp2_with fail
          obtain ⟨v, hv⟩ : ∃ v, barK p 1 = v := ⟨_, rfl⟩
          refine (bars1_any hv _).mono ?_; rintro e w9 ⟨rfl, hb⟩
          have HBL := Lib.hid (below_rV HBL.out hb)
          have HBK := Lib.hid hv
          clear hb con cp hv
          cases v
          · have HFT := Lib.hid (ftop_no1 HF0.out HBK.out)
            go_wp2_with fail
            go_roundw
            case rel => exact ⟨1, 0, _, _, by omega, by rfl, rfl, HFT.out, rfl, rfl, HBL.out⟩
            case measure => simp [intOf]
          · have HFT := Lib.hid (ftop_yes1 (a := a) (b := true) (c := c) HBK.out)
            go_wp2_with fail
            go_roundw
            case rel => exact ⟨1, 0, _, _, by omega, by rfl, rfl, HFT.out, rfl, rfl, HBL.out⟩
            case measure => simp [intOf]
      · obtain rfl : z = 0 := by simpa using hz
        clear hz
        cases a
        · have HFT := Lib.hid (ftop_off0 HF0.out)
          have con := (HQ.out.below HBL.out).on.cell
          go_wp2_with fail
          go_roundw
          case rel => exact ⟨0, -1, _, _, by omega, by rfl, rfl, HFT.out, rfl, rfl, HBL.out⟩
          case measure => simp [intOf]
        · have con := (HQ.out.below HBL.out).on.cell
          have cp := (HQ.out.below HBL.out).pb.cell
          go_wp2_with fail
          obtain ⟨v, hv⟩ : ∃ v, barK p 0 = v := ⟨_, rfl⟩
          refine (bars0_any hv _).mono ?_; rintro e w9 ⟨rfl, hb⟩
          have HBL := Lib.hid (below_rV HBL.out hb)
          have HBK := Lib.hid hv
          clear hb con cp hv
          cases v
          · have HFT := Lib.hid (ftop_no0 HF0.out HBK.out)
            go_wp2_with fail
            go_roundw
            case rel => exact ⟨0, -1, _, _, by omega, by rfl, rfl, HFT.out, rfl, rfl, HBL.out⟩
            case measure => simp [intOf]
          · have HFT := Lib.hid (ftop_yes0 (a := true) (b := b) (c := c) HBK.out)
            go_wp2_with fail
            go_roundw
            case rel => exact ⟨0, -1, _, _, by omega, by rfl, rfl, HFT.out, rfl, rfl, HBL.out⟩
            case measure => simp [intOf]
      · obtain rfl : z = -1 := by simpa using hz
        have hq := HF0.out
        rw [ftop_0, HBD.out] at hq
        obtain ⟨rfl, rfl⟩ : sB = s0 ∧ vB = v0 := by cases hq; exact ⟨rfl, rfl⟩
        have dsn : (sB != sB) = false := by simp
        have dvn : (vB != vB) = false := by simp
        have hb := HBL.out
        have HQ := Lib.hid (HQ.out.below hb)
        have HV1 := Lib.hid (HV1.out.belowAll hb)
        have HV2 := Lib.hid (HV2.out.belowAll hb)
        have HO1 := Lib.hid (HO1.out.below hb)
        have HO2 := Lib.hid (HO2.out.below hb)
        clear hb hq hz HF0 HBL
        have y1 := HV1.out.cell
        have y2 := HV2.out.cell
        go_wp2_with fail
        refine (same23_any k s O A1 A2 c1 c2 _ HO1.out HO2.out (by have := HOL.out; omega)).mono ?_; rintro e wz ⟨rfl, hb⟩
        have HQ := Lib.hid (HQ.out.below hb)
        clear hb y1 y2
        go_wp2_with fail
        go_ret
        exact ⟨rfl, HQ.out.bel⟩
end Go.Proofs.YtlhmhcidknadmaaGreatDoor
