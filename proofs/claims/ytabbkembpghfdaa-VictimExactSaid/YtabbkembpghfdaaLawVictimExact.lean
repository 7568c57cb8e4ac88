/- bilgelaw21.VictimExact: pods that fit have exact sums that are no greater than the room; those that don't have one that is greater, or is Most and more. -/
import Derived.Test.YtabbkembpghfdaaVExact
namespace Go.Proofs.Ytabbkembpghfdaa
open Go.RowKit

def goodTo (g0 g1 g2 : Bool) : Nat → Bool
  | 0 => true
  | 1 => g0
  | 2 => g0 && g1
  | _ => g0 && (g1 && g2)
theorem exWord {H N S r : Int} (h : H * 18446744073709551616 + N = S) (h0 : 0 ≤ H) (n0 : 0 ≤ N) (n1 : N < 18446744073709551616) (_hr : r ≤ 9223372036854775807) : decide (S < most ∧ S ≤ r) = (!(decide (0 < H)) && (!(decide (9223372036854775807 ≤ N)) && !(decide (r < N)))) := by
  rw [Bool.eq_iff_iff]
  unfold most
  simp only [Bool.and_eq_true, Bool.not_eq_true', decide_eq_false_iff_not, decide_eq_true_eq]
  omega
theorem right_q {p : Pd} (h : p.right = true) : 0 ≤ p.q0 ∧ 0 ≤ p.q1 ∧ 0 ≤ p.q2 := by
  unfold Pd.right Pd.amountsOk bad at h
  simp only [Bool.and_eq_true, Bool.not_eq_true', Bool.or_eq_false_iff, decide_eq_false_iff_not] at h
  omega
set_option maxRecDepth 100000 in
set_option maxHeartbeats 16000000 in
theorem victimExact_any (room : S3) (l : List Pd) (p : Pd) (Al : Option Addr) (cl : Nat) (w : World) (hr : Rds w encP Al l) (hw : ∀ x ∈ l, x.Wf) (hra : I64 room.a) (hrb : I64 room.b) (hrc : I64 room.c) (hm : l.length ≤ 9223372036854775807) (hp : p.Wf) :
    Calls Try.prog 4 #[.agg #[.int .i64 room.a, .int .i64 room.b, .int .i64 room.c], .slice Al l.length cl, .agg p.cells] w fun e w' => e = .returned (.bool true) ∧ Below w.heap.size w w' := by
  have mixed : Try.prog.follows Departure.mixedOrders = true := by kernel_rfl
  have HQ := Lib.hid (CQ.new room p w)
  have HR := Lib.hid hr
  have HW := Lib.hid hw
  have HPW := Lib.hid hp
  clear hr hw hp
  go_enter Try.func4, Try.ntmps4
  go_wp2_with fail
  refine (awake21_any _).mono ?_; rintro e w1 ⟨rfl, hb⟩
  have HQ := Lib.hid (HQ.out.below hb)
  clear hb
  have crm := HQ.out.rm.cell
  have cp := HQ.out.pb.cell
  by_cases hf : FitV room l p
  rotate_left
  · go_wp2_with fail
    refine (refFitV_any (v := false) (room := room) (p := p) (by simp [hf]) Al cl _ (HR.out.below HQ.out.bel) HW.out HPW.out hm).mono ?_; rintro e w2 ⟨rfl, hb⟩
    have HQ := Lib.hid (HQ.out.below hb)
    clear hb crm cp hf
    go_wp2_with fail
    refine (awake21_any _).mono ?_; rintro e w3 ⟨rfl, hb⟩
    have HQ := Lib.hid (HQ.out.below hb)
    clear hb
    go_wp2_with fail
    go_ret
    exact ⟨rfl, HQ.out.bel⟩
  · have HF := Lib.hid hf
    go_wp2_with fail
    refine (refFitV_any (v := true) (room := room) (p := p) (by simp [hf]) Al cl _ (HR.out.below HQ.out.bel) HW.out HPW.out hm).mono ?_; rintro e w1 ⟨rfl, hb⟩
    have HQ := Lib.hid (HQ.out.below hb)
    have HRL := Lib.hid (HR.out.below HQ.out.bel)
    have hl := hf.len
    clear hb crm cp hf
    have hqr : ∀ x ∈ l, 0 ≤ x.q0 ∧ 0 ≤ x.q1 ∧ 0 ≤ x.q2 := fun x hx => by
      obtain ⟨i, hi, rfl⟩ := List.getElem_of_mem hx
      exact right_q (HF.out.ok i hi hi).r
    have HQ0 := Lib.hid (show ∀ x ∈ l, 0 ≤ x.q0 ∧ x.q0 ≤ 9223372036854775807 from fun x hx => ⟨(hqr x hx).1, (HW.out x hx).q0.2⟩)
    have HQ1 := Lib.hid (show ∀ x ∈ l, 0 ≤ x.q1 ∧ x.q1 ≤ 9223372036854775807 from fun x hx => ⟨(hqr x hx).2.1, (HW.out x hx).q1.2⟩)
    have HQ2 := Lib.hid (show ∀ x ∈ l, 0 ≤ x.q2 ∧ x.q2 ≤ 9223372036854775807 from fun x hx => ⟨(hqr x hx).2.2, (HW.out x hx).q2.2⟩)
    have hra0 := HF.out.a
    have hrb0 := HF.out.b
    have hrc0 := HF.out.c
    have hwa : IntKind.u64.wrap room.a = room.a := by have := hra.2; rw [IntKind.wrap_u64]; omega
    have hwb : IntKind.u64.wrap room.b = room.b := by have := hrb.2; rw [IntKind.wrap_u64]; omega
    have hwc : IntKind.u64.wrap room.c = room.c := by have := hrc.2; rw [IntKind.wrap_u64]; omega
    obtain ⟨G0, hG0⟩ : ∃ g, g = decide (ex0 0 l < most ∧ ex0 0 l ≤ room.a) := ⟨_, rfl⟩
    obtain ⟨G1, hG1⟩ : ∃ g, g = decide (ex1 0 l < most ∧ ex1 0 l ≤ room.b) := ⟨_, rfl⟩
    obtain ⟨G2, hG2⟩ : ∃ g, g = decide (ex2 0 l < most ∧ ex2 0 l ≤ room.c) := ⟨_, rfl⟩
    have HFB := Lib.hid (fitsB_exact room l hqr)
    rw [← hG0, ← hG1, ← hG2] at HFB
    have HE0 := Lib.hid hG0
    have HE1 := Lib.hid hG1
    have HE2 := Lib.hid hG2
    clear hG0 hG1 hG2 hqr
    go_wp2_with fail
    go_loopw [7, 8, 9, 10] (fun gg kk hh nn wr => ∃ (k : Nat), k ≤ 3 ∧ kk = .int .i64 k ∧ gg = .bool (goodTo G0 G1 G2 k) ∧ Below w1.heap.size w1 wr) (fun _ kk _ _ _ => 3 - (intOf kk).toNat)
    case atStart => exact ⟨0, by omega, rfl, rfl, Below.refl _ _⟩
    case round =>
      obtain ⟨k, hk, rfl, rfl, hbl⟩ := hrel
      have HP := Lib.hid hbl
      have HQ := Lib.hid (HQ.out.below hbl)
      have HRi := Lib.hid (HRL.out.below hbl)
      clear hbl
      obtain rfl | rfl | rfl | rfl : k = 0 ∨ k = 1 ∨ k = 2 ∨ k = 3 := by omega
      · simp only [goodTo]
        have c0 : wr.cell? ⟨w.heap.size, 0, none⟩ = some (.int .i64 room.a) := HQ.out.rm.cell 0
        go_wp2_with fail
        refine (exact0_any l Al cl _ HRi.out (by omega) HQ0.out).mono ?_; rintro e w2 ⟨H, N, rfl, hS, hH0, hN0, hN1, rfl⟩
        have HW0 := Lib.hid (exWord hS hH0 hN0 hN1 hra.2)
        clear hS
        cases d1 : decide (0 < H)
        · cases d2 : decide (9223372036854775807 ≤ N)
          · cases d3 : decide (room.a < N)
            · have HG : Hid (G0 = true) := by show _ = _; rw [HE0.out, HW0.out]; simp only [d1, d2, d3]; rfl
              go_wp2_with fail
              go_roundw
              case rel => exact ⟨1, by omega, by rfl, by (show _ = Value.bool (goodTo G0 G1 G2 1); simp [goodTo, HG.out]), HP.out⟩
              case measure => simp [intOf]
            · have HG : Hid (G0 = false) := by show _ = _; rw [HE0.out, HW0.out]; simp only [d1, d2, d3]; rfl
              go_wp2_with fail
              go_roundw
              case rel => exact ⟨1, by omega, by rfl, by (show _ = Value.bool (goodTo G0 G1 G2 1); simp [goodTo, HG.out]), HP.out⟩
              case measure => simp [intOf]
          · have HG : Hid (G0 = false) := by show _ = _; rw [HE0.out, HW0.out]; simp only [d1, d2]; rfl
            go_wp2_with fail
            go_roundw
            case rel => exact ⟨1, by omega, by rfl, by (show _ = Value.bool (goodTo G0 G1 G2 1); simp [goodTo, HG.out]), HP.out⟩
            case measure => simp [intOf]
        · have HG : Hid (G0 = false) := by show _ = _; rw [HE0.out, HW0.out]; simp only [d1]; rfl
          go_wp2_with fail
          go_roundw
          case rel => exact ⟨1, by omega, by rfl, by (show _ = Value.bool (goodTo G0 G1 G2 1); simp [goodTo, HG.out]), HP.out⟩
          case measure => simp [intOf]
      · simp only [goodTo]
        have c0 : wr.cell? ⟨w.heap.size, 1, none⟩ = some (.int .i64 room.b) := HQ.out.rm.cell 1
        go_wp2_with fail
        refine (exact1_any l Al cl _ HRi.out (by omega) HQ1.out).mono ?_; rintro e w2 ⟨H, N, rfl, hS, hH0, hN0, hN1, rfl⟩
        have HW1 := Lib.hid (exWord hS hH0 hN0 hN1 hrb.2)
        clear hS
        cases d1 : decide (0 < H)
        · cases d2 : decide (9223372036854775807 ≤ N)
          · cases d3 : decide (room.b < N)
            · have HG : Hid (G1 = true) := by show _ = _; rw [HE1.out, HW1.out]; simp only [d1, d2, d3]; rfl
              go_wp2_with fail
              go_roundw
              case rel => exact ⟨2, by omega, by rfl, by (show _ = Value.bool (goodTo G0 G1 G2 2); simp [goodTo, HG.out]), HP.out⟩
              case measure => simp [intOf]
            · have HG : Hid (G1 = false) := by show _ = _; rw [HE1.out, HW1.out]; simp only [d1, d2, d3]; rfl
              go_wp2_with fail
              go_roundw
              case rel => exact ⟨2, by omega, by rfl, by (show _ = Value.bool (goodTo G0 G1 G2 2); simp [goodTo, HG.out]), HP.out⟩
              case measure => simp [intOf]
          · have HG : Hid (G1 = false) := by show _ = _; rw [HE1.out, HW1.out]; simp only [d1, d2]; rfl
            go_wp2_with fail
            go_roundw
            case rel => exact ⟨2, by omega, by rfl, by (show _ = Value.bool (goodTo G0 G1 G2 2); simp [goodTo, HG.out]), HP.out⟩
            case measure => simp [intOf]
        · have HG : Hid (G1 = false) := by show _ = _; rw [HE1.out, HW1.out]; simp only [d1]; rfl
          go_wp2_with fail
          go_roundw
          case rel => exact ⟨2, by omega, by rfl, by (show _ = Value.bool (goodTo G0 G1 G2 2); simp [goodTo, HG.out]), HP.out⟩
          case measure => simp [intOf]
      · simp only [goodTo]
        have c0 : wr.cell? ⟨w.heap.size, 2, none⟩ = some (.int .i64 room.c) := HQ.out.rm.cell 2
        go_wp2_with fail
        refine (exact2_any l Al cl _ HRi.out (by omega) HQ2.out).mono ?_; rintro e w2 ⟨H, N, rfl, hS, hH0, hN0, hN1, rfl⟩
        have HW2 := Lib.hid (exWord hS hH0 hN0 hN1 hrc.2)
        clear hS
        cases d1 : decide (0 < H)
        · cases d2 : decide (9223372036854775807 ≤ N)
          · cases d3 : decide (room.c < N)
            · have HG : Hid (G2 = true) := by show _ = _; rw [HE2.out, HW2.out]; simp only [d1, d2, d3]; rfl
              go_wp2_with fail
              go_roundw
              case rel => exact ⟨3, by omega, by rfl, by (show _ = Value.bool (goodTo G0 G1 G2 3); simp [goodTo, HG.out]), HP.out⟩
              case measure => simp [intOf]
            · have HG : Hid (G2 = false) := by show _ = _; rw [HE2.out, HW2.out]; simp only [d1, d2, d3]; rfl
              go_wp2_with fail
              go_roundw
              case rel => exact ⟨3, by omega, by rfl, by (show _ = Value.bool (goodTo G0 G1 G2 3); simp [goodTo, HG.out]), HP.out⟩
              case measure => simp [intOf]
          · have HG : Hid (G2 = false) := by show _ = _; rw [HE2.out, HW2.out]; simp only [d1, d2]; rfl
            go_wp2_with fail
            go_roundw
            case rel => exact ⟨3, by omega, by rfl, by (show _ = Value.bool (goodTo G0 G1 G2 3); simp [goodTo, HG.out]), HP.out⟩
            case measure => simp [intOf]
        · have HG : Hid (G2 = false) := by show _ = _; rw [HE2.out, HW2.out]; simp only [d1]; rfl
          go_wp2_with fail
          go_roundw
          case rel => exact ⟨3, by omega, by rfl, by (show _ = Value.bool (goodTo G0 G1 G2 3); simp [goodTo, HG.out]), HP.out⟩
          case measure => simp [intOf]
      · simp only [goodTo]
        rw [← HFB.out]
        have crm := HQ.out.rm.cell
        obtain ⟨fv, hfv⟩ : ∃ v, fitsB room l = v := ⟨_, rfl⟩
        have HFV := Lib.hid hfv
        rw [hfv]
        clear hfv
        go_wp2_with fail
        refine (fitsV HFV.out HRi.out HW.out (by omega)).mono ?_; rintro e w4 ⟨rfl, hb⟩
        have HQ := Lib.hid (HQ.out.below hb)
        clear hb crm
        have deq : (fv == fv) = true := by simp
        go_wp2_with fail
        go_ret
        exact ⟨by simp, HQ.out.bel⟩
end Go.Proofs.Ytabbkembpghfdaa
