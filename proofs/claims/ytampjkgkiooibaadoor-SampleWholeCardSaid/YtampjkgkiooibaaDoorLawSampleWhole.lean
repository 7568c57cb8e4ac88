/- bilgelaw17.SampleWhole: of whatever bits as numbers: one that is NaN bars the sample; else each number is read as chapter 3 says, and none is below 0. -/
import Derived.Test.YtampjkgkiooibaaDoorSFloat
namespace Go.Proofs.YtampjkgkiooibaaDoor
open Go.RowKit

theorem rno {p : Prop} (h : ¬ p) : false = true ↔ p := ⟨(fun h => by cases h), (fun k => absurd k h)⟩
def fl3 (a b c : Nat) : Nat → Array Value
  | 0 => #[.float .f64 0, .float .f64 0, .float .f64 0]
  | 1 => #[.float .f64 a, .float .f64 0, .float .f64 0]
  | 2 => #[.float .f64 a, .float .f64 b, .float .f64 0]
  | _ => #[.float .f64 a, .float .f64 b, .float .f64 c]
def bdTo (a0 a1 a2 b0 b1 b2 : Nat) : Nat → Bool
  | 0 => false
  | 1 => false || (kindN a0 == 1 || kindN b0 == 1)
  | 2 => (false || (kindN a0 == 1 || kindN b0 == 1)) || (kindN a1 == 1 || kindN b1 == 1)
  | _ => ((false || (kindN a0 == 1 || kindN b0 == 1)) || (kindN a1 == 1 || kindN b1 == 1)) || (kindN a2 == 1 || kindN b2 == 1)
/-- the bits, and the numbers made of them -/
structure WQ (a0 a1 a2 b0 b1 b2 n5 : Nat) (k : Nat) (w W : World) : Prop where
  ab : Blk W w.heap.size 43 #[.int .u64 a0, .int .u64 a1, .int .u64 a2]
  bb : Blk W (w.heap.size + 1) 43 #[.int .u64 b0, .int .u64 b1, .int .u64 b2]
  xb : Blk W n5 23 (fl3 a0 a1 a2 k)
  yb : Blk W (n5 + 1) 23 (fl3 b0 b1 b2 k)
  bel : Below w.heap.size w W
  hn : w.heap.size + 1 < n5
section
variable {a0 a1 a2 b0 b1 b2 n5 : Nat} {w W W' : World}
theorem WQ.below {k : Nat} (h : WQ a0 a1 a2 b0 b1 b2 n5 k w W) (hb : Below W.heap.size W W') : WQ a0 a1 a2 b0 b1 b2 n5 k w W' := ⟨h.ab.belowAll hb, h.bb.belowAll hb, h.xb.belowAll hb, h.yb.belowAll hb, below_rV h.bel hb, h.hn⟩
theorem WQ.start (ha : Blk W w.heap.size 43 #[.int .u64 a0, .int .u64 a1, .int .u64 a2]) (hb : Blk W (w.heap.size + 1) 43 #[.int .u64 b0, .int .u64 b1, .int .u64 b2]) (hw : Below w.heap.size w W) (hn : w.heap.size + 1 < W.heap.size) : WQ a0 a1 a2 b0 b1 b2 W.heap.size 0 w ((W.alloc (.cells #[.float .f64 0, .float .f64 0, .float .f64 0] 23)).alloc (.cells #[.float .f64 0, .float .f64 0, .float .f64 0] 23)) := by
  have hz : (W.alloc (.cells #[.float .f64 0, .float .f64 0, .float .f64 0] 23)).heap.size = W.heap.size + 1 := by simp
  have hy := Blk.new (W.alloc (.cells #[.float .f64 0, .float .f64 0, .float .f64 0] 23)) 23 #[.float .f64 0, .float .f64 0, .float .f64 0]
  rw [hz] at hy
  exact ⟨(ha.alloc _).alloc _, (hb.alloc _).alloc _, (Blk.new W _ _).alloc _, hy, (hw.alloc hw.size _).alloc (hw.alloc hw.size _).size _, hn⟩
theorem WQ.step0 (h : WQ a0 a1 a2 b0 b1 b2 n5 0 w W) : WQ a0 a1 a2 b0 b1 b2 n5 1 w ((W.setCell ⟨n5, 0, none⟩ (.float .f64 a0)).setCell ⟨n5 + 1, 0, none⟩ (.float .f64 b0)) := by
  have hn := h.hn
  exact ⟨(h.ab.far (by show ¬ _ = n5; omega) _).far (by show ¬ _ = n5 + 1; omega) _, (h.bb.far (by show ¬ _ = n5; omega) _).far (by show ¬ _ = n5 + 1; omega) _, (h.xb.set_ 0 (.float .f64 a0)).far (by show ¬ _ = n5 + 1; omega) _, (h.yb.far (by show ¬ _ = n5; omega) _).set_ 0 (.float .f64 b0), (h.bel.setCell (by show _ ≤ n5; omega) _).setCell (by show _ ≤ n5 + 1; omega) _, hn⟩
theorem WQ.step1 (h : WQ a0 a1 a2 b0 b1 b2 n5 1 w W) : WQ a0 a1 a2 b0 b1 b2 n5 2 w ((W.setCell ⟨n5, 1, none⟩ (.float .f64 a1)).setCell ⟨n5 + 1, 1, none⟩ (.float .f64 b1)) := by
  have hn := h.hn
  exact ⟨(h.ab.far (by show ¬ _ = n5; omega) _).far (by show ¬ _ = n5 + 1; omega) _, (h.bb.far (by show ¬ _ = n5; omega) _).far (by show ¬ _ = n5 + 1; omega) _, (h.xb.set_ 1 (.float .f64 a1)).far (by show ¬ _ = n5 + 1; omega) _, (h.yb.far (by show ¬ _ = n5; omega) _).set_ 1 (.float .f64 b1), (h.bel.setCell (by show _ ≤ n5; omega) _).setCell (by show _ ≤ n5 + 1; omega) _, hn⟩
theorem WQ.step2 (h : WQ a0 a1 a2 b0 b1 b2 n5 2 w W) : WQ a0 a1 a2 b0 b1 b2 n5 3 w ((W.setCell ⟨n5, 2, none⟩ (.float .f64 a2)).setCell ⟨n5 + 1, 2, none⟩ (.float .f64 b2)) := by
  have hn := h.hn
  exact ⟨(h.ab.far (by show ¬ _ = n5; omega) _).far (by show ¬ _ = n5 + 1; omega) _, (h.bb.far (by show ¬ _ = n5; omega) _).far (by show ¬ _ = n5 + 1; omega) _, (h.xb.set_ 2 (.float .f64 a2)).far (by show ¬ _ = n5 + 1; omega) _, (h.yb.far (by show ¬ _ = n5; omega) _).set_ 2 (.float .f64 b2), (h.bel.setCell (by show _ ≤ n5; omega) _).setCell (by show _ ≤ n5 + 1; omega) _, hn⟩
end
theorem whole_right {a0 a1 a2 b0 b1 b2 : Nat} (N : Nat) : RightR (⟨1, a0, a1, a2, some ⟨N, 0, none⟩, [(⟨⟨#[112]⟩, b0, b1, b2⟩ : Ug)], 1⟩ : Rw) ↔ bdTo a0 a1 a2 b0 b1 b2 3 = false := by
  have hb : bdTo a0 a1 a2 b0 b1 b2 3 = false ↔ (kindN a0 ≠ 1 ∧ kindN b0 ≠ 1) ∧ (kindN a1 ≠ 1 ∧ kindN b1 ≠ 1) ∧ (kindN a2 ≠ 1 ∧ kindN b2 ≠ 1) := by
    show (((false || (kindN a0 == 1 || kindN b0 == 1)) || (kindN a1 == 1 || kindN b1 == 1)) || (kindN a2 == 1 || kindN b2 == 1)) = false ↔ _
    simp only [Bool.false_or, Bool.or_eq_false_iff, beq_eq_false_iff_ne, and_assoc]
  rw [hb]
  constructor
  · intro h
    have h0 := (h.ok 0 (by show 0 < 1; omega) (by show 0 < 1; omega)).k
    exact ⟨⟨h.k.k0, h0.k0⟩, ⟨h.k.k1, h0.k1⟩, ⟨h.k.k2, h0.k2⟩⟩
  · rintro ⟨⟨h1, h2⟩, ⟨h3, h4⟩, ⟨h5, h6⟩⟩
    refine ⟨by show 1 ≤ 128; decide, ⟨h1, h3, h5⟩, fun i hi _ => ?_⟩
    have h9 : i < 1 := hi
    obtain rfl : i = 0 := by omega
    exact ⟨⟨h2, h4, h6⟩, fun j hj => by omega, (by decide : named [112] = true)⟩
theorem whole_wf {a0 a1 a2 b0 b1 b2 N : Nat} {W : World} (hl : (a0 < 18446744073709551616 ∧ a1 < 18446744073709551616 ∧ a2 < 18446744073709551616) ∧ b0 < 18446744073709551616 ∧ b1 < 18446744073709551616 ∧ b2 < 18446744073709551616) (h : Rds W encG (some ⟨N, 0, none⟩) [(⟨⟨#[112]⟩, b0, b1, b2⟩ : Ug)]) : Rw.Wf (⟨1, a0, a1, a2, some ⟨N, 0, none⟩, [(⟨⟨#[112]⟩, b0, b1, b2⟩ : Ug)], 1⟩ : Rw) W := by
  refine ⟨hl.1.1, hl.1.2.1, hl.1.2.2, ⟨by show (-9223372036854775808 : Int) ≤ 1; decide, by show (1 : Int) ≤ 9223372036854775807; decide⟩, h, fun x hx => ?_, fun x hx => ?_, Nat.le_refl 1, by show 1 ≤ 9223372036854775807; decide⟩
  · obtain rfl := List.mem_singleton.1 hx
    exact ⟨hl.2.1, hl.2.2.1, hl.2.2.2⟩
  · obtain rfl := List.mem_singleton.1 hx
    exact (by decide : (⟨#[112]⟩ : ByteArray).size ≤ 9223372036854775807)
theorem whole_read {b0 b1 b2 : Nat} {x y z : Int} (h : readN b0 = x ∧ readN b1 = y ∧ readN b2 = z) : readUses [(⟨⟨#[112]⟩, b0, b1, b2⟩ : Ug)] = [⟨⟨#[112]⟩, x, y, z⟩] := by
  show [toUs ⟨⟨#[112]⟩, b0, b1, b2⟩] = _
  unfold toUs
  rw [h.1, h.2.1, h.2.2]
set_option maxRecDepth 100000 in
set_option maxHeartbeats 16000000 in
theorem sampleWholeLaw_any {a0 a1 a2 b0 b1 b2 : Nat} (w : World) (ha0 : a0 < 18446744073709551616) (ha1 : a1 < 18446744073709551616) (ha2 : a2 < 18446744073709551616) (hb0 : b0 < 18446744073709551616) (hb1 : b1 < 18446744073709551616) (hb2 : b2 < 18446744073709551616) :
    Calls Tryd.prog 5 #[.agg #[.int .u64 a0, .int .u64 a1, .int .u64 a2], .agg #[.int .u64 b0, .int .u64 b1, .int .u64 b2]] w fun e w' => e = .returned (.bool true) ∧ Below w.heap.size w w' := by
  have mixed : Tryd.prog.follows Departure.mixedOrders = true := by kernel_rfl
  have HAB : Hid (Blk ((w.alloc (.cells #[.int .u64 a0, .int .u64 a1, .int .u64 a2] 43)).alloc (.cells #[.int .u64 b0, .int .u64 b1, .int .u64 b2] 43)) w.heap.size 43 #[.int .u64 a0, .int .u64 a1, .int .u64 a2] ∧ Blk ((w.alloc (.cells #[.int .u64 a0, .int .u64 a1, .int .u64 a2] 43)).alloc (.cells #[.int .u64 b0, .int .u64 b1, .int .u64 b2] 43)) (w.heap.size + 1) 43 #[.int .u64 b0, .int .u64 b1, .int .u64 b2] ∧ Below w.heap.size w ((w.alloc (.cells #[.int .u64 a0, .int .u64 a1, .int .u64 a2] 43)).alloc (.cells #[.int .u64 b0, .int .u64 b1, .int .u64 b2] 43))) := by
    have hz : (w.alloc (.cells #[.int .u64 a0, .int .u64 a1, .int .u64 a2] 43)).heap.size = w.heap.size + 1 := by simp
    have hb := Blk.new (w.alloc (.cells #[.int .u64 a0, .int .u64 a1, .int .u64 a2] 43)) 43 #[.int .u64 b0, .int .u64 b1, .int .u64 b2]
    rw [hz] at hb
    exact ⟨(Blk.new _ _ _).alloc _, hb, ((Below.refl _ _).alloc (Nat.le_refl _) _).alloc (by simp) _⟩
  have HLT : Hid ((a0 < 18446744073709551616 ∧ a1 < 18446744073709551616 ∧ a2 < 18446744073709551616) ∧ b0 < 18446744073709551616 ∧ b1 < 18446744073709551616 ∧ b2 < 18446744073709551616) := ⟨⟨ha0, ha1, ha2⟩, hb0, hb1, hb2⟩
  clear ha0 ha1 ha2 hb0 hb1 hb2
  go_enter Tryd.func5, Tryd.ntmps5
  go_wp2_with fail
  refine (awake17_any _).mono ?_; rintro e w1 ⟨rfl, hb⟩
  have HQ0 := Lib.hid (WQ.start (HAB.out.1.belowAll hb) (HAB.out.2.1.belowAll hb) (below_rV HAB.out.2.2 hb) (HAB.out.2.1.belowAll hb).lt)
  clear hb HAB
  go_wp2_with fail
  generalize w1.heap.size = n5 at *
  go_loopw [8, 7] (fun i bd wr => ∃ k : Nat, k ≤ 3 ∧ i = .int .i64 k ∧ bd = .bool (bdTo a0 a1 a2 b0 b1 b2 k) ∧ WQ a0 a1 a2 b0 b1 b2 n5 k w wr) (fun i _ _ => 3 - (intOf i).toNat)
  case atStart => exact ⟨0, by omega, rfl, rfl, HQ0.out⟩
  case round =>
    clear HQ0
    obtain ⟨k, hk, rfl, rfl, hq⟩ := hrel
    have HQ := Lib.hid hq
    clear hq
    obtain rfl | rfl | rfl | rfl : k = 0 ∨ k = 1 ∨ k = 2 ∨ k = 3 := by omega
    · have HN := Lib.hid (HQ.out.step0)
      have HB1 := Lib.hid ((HQ.out.bb.far (p := ⟨n5, 0, none⟩) (by have := HQ.out.hn; show ¬ _ = n5; omega) (.float .f64 a0)).cell 0)
      have ca : wr.cell? ⟨w.heap.size, 0, none⟩ = some (.int .u64 a0) := HQ.out.ab.cell 0
      have cb : (wr.setCell ⟨n5, 0, none⟩ (.float .f64 a0)).cell? ⟨w.heap.size + 1, 0, none⟩ = some (.int .u64 b0) := HB1.out
      have cx : wr.cell? ⟨n5, 0, none⟩ = some (.float .f64 0) := HQ.out.xb.cell 0
      have fx : wr.frozen? ⟨n5, 0, none⟩ = false := HQ.out.xb.frozen 0
      have HY1 := Lib.hid (HQ.out.yb.far (p := ⟨n5, 0, none⟩) (by show ¬ _ = n5; omega) (.float .f64 a0))
      have cy : (wr.setCell ⟨n5, 0, none⟩ (.float .f64 a0)).cell? ⟨n5 + 1, 0, none⟩ = some (.float .f64 0) := HY1.out.cell 0
      have fy : (wr.setCell ⟨n5, 0, none⟩ (.float .f64 a0)).frozen? ⟨n5 + 1, 0, none⟩ = false := HY1.out.frozen 0
      have fb1 := frombits_run a0 wr
      have fb2 := frombits_run b0 (wr.setCell ⟨n5, 0, none⟩ (.float .f64 a0))
      have cx2 : ((wr.setCell ⟨n5, 0, none⟩ (.float .f64 a0)).setCell ⟨n5 + 1, 0, none⟩ (.float .f64 b0)).cell? ⟨n5, 0, none⟩ = some (.float .f64 a0) := HN.out.xb.cell 0
      have cy2 : ((wr.setCell ⟨n5, 0, none⟩ (.float .f64 a0)).setCell ⟨n5 + 1, 0, none⟩ (.float .f64 b0)).cell? ⟨n5 + 1, 0, none⟩ = some (.float .f64 b0) := HN.out.yb.cell 0
      have HBD := Lib.hid (show bdTo a0 a1 a2 b0 b1 b2 1 = (bdTo a0 a1 a2 b0 b1 b2 0 || (kindN a0 == 1 || kindN b0 == 1)) from rfl)
      obtain ⟨ka, hka⟩ : ∃ x, kindN a0 = x := ⟨_, rfl⟩
      obtain ⟨kb, hkb⟩ : ∃ x, kindN b0 = x := ⟨_, rfl⟩
      have HKA := Lib.hid hka
      have HKB := Lib.hid hkb
      clear hka hkb
      rw [HKA.out, HKB.out] at HBD
      generalize bdTo a0 a1 a2 b0 b1 b2 0 = bd at *
      cases bd
      · go_wp2_with fail
        refine (kindV_any (HLT.out.1.1) HKA.out _).mono ?_; rintro x w2 ⟨rfl, rfl⟩
        by_cases h1 : ka = 1
        · subst h1
          go_wp2_with fail
          go_roundw
          case rel => exact ⟨1, by omega, rfl, by rw [HBD.out]; first | rfl | simp [*], HN.out⟩
          case measure => simp [intOf]
        · have d1 : (ka == 1) = false := by rw [beq_eq_false_iff_ne]; exact h1
          clear h1
          go_wp2_with fail
          refine (kindV_any (HLT.out.2.1) HKB.out _).mono ?_; rintro x w3 ⟨rfl, rfl⟩
          rw [d1] at HBD
          go_wp2_with fail
          go_roundw
          case rel => exact ⟨1, by omega, rfl, by rw [HBD.out]; first | rfl | simp [*], HN.out⟩
          case measure => simp [intOf]
      · go_wp2_with fail
        go_roundw
        case rel => exact ⟨1, by omega, rfl, by rw [HBD.out]; first | rfl | simp [*], HN.out⟩
        case measure => simp [intOf]
    · have HN := Lib.hid (HQ.out.step1)
      have HB1 := Lib.hid ((HQ.out.bb.far (p := ⟨n5, 1, none⟩) (by have := HQ.out.hn; show ¬ _ = n5; omega) (.float .f64 a1)).cell 1)
      have ca : wr.cell? ⟨w.heap.size, 1, none⟩ = some (.int .u64 a1) := HQ.out.ab.cell 1
      have cb : (wr.setCell ⟨n5, 1, none⟩ (.float .f64 a1)).cell? ⟨w.heap.size + 1, 1, none⟩ = some (.int .u64 b1) := HB1.out
      have cx : wr.cell? ⟨n5, 1, none⟩ = some (.float .f64 0) := HQ.out.xb.cell 1
      have fx : wr.frozen? ⟨n5, 1, none⟩ = false := HQ.out.xb.frozen 1
      have HY1 := Lib.hid (HQ.out.yb.far (p := ⟨n5, 1, none⟩) (by show ¬ _ = n5; omega) (.float .f64 a1))
      have cy : (wr.setCell ⟨n5, 1, none⟩ (.float .f64 a1)).cell? ⟨n5 + 1, 1, none⟩ = some (.float .f64 0) := HY1.out.cell 1
      have fy : (wr.setCell ⟨n5, 1, none⟩ (.float .f64 a1)).frozen? ⟨n5 + 1, 1, none⟩ = false := HY1.out.frozen 1
      have fb1 := frombits_run a1 wr
      have fb2 := frombits_run b1 (wr.setCell ⟨n5, 1, none⟩ (.float .f64 a1))
      have cx2 : ((wr.setCell ⟨n5, 1, none⟩ (.float .f64 a1)).setCell ⟨n5 + 1, 1, none⟩ (.float .f64 b1)).cell? ⟨n5, 1, none⟩ = some (.float .f64 a1) := HN.out.xb.cell 1
      have cy2 : ((wr.setCell ⟨n5, 1, none⟩ (.float .f64 a1)).setCell ⟨n5 + 1, 1, none⟩ (.float .f64 b1)).cell? ⟨n5 + 1, 1, none⟩ = some (.float .f64 b1) := HN.out.yb.cell 1
      have HBD := Lib.hid (show bdTo a0 a1 a2 b0 b1 b2 2 = (bdTo a0 a1 a2 b0 b1 b2 1 || (kindN a1 == 1 || kindN b1 == 1)) from rfl)
      obtain ⟨ka, hka⟩ : ∃ x, kindN a1 = x := ⟨_, rfl⟩
      obtain ⟨kb, hkb⟩ : ∃ x, kindN b1 = x := ⟨_, rfl⟩
      have HKA := Lib.hid hka
      have HKB := Lib.hid hkb
      clear hka hkb
      rw [HKA.out, HKB.out] at HBD
      generalize bdTo a0 a1 a2 b0 b1 b2 1 = bd at *
      cases bd
      · go_wp2_with fail
        refine (kindV_any (HLT.out.1.2.1) HKA.out _).mono ?_; rintro x w2 ⟨rfl, rfl⟩
        by_cases h1 : ka = 1
        · subst h1
          go_wp2_with fail
          go_roundw
          case rel => exact ⟨2, by omega, rfl, by rw [HBD.out]; first | rfl | simp [*], HN.out⟩
          case measure => simp [intOf]
        · have d1 : (ka == 1) = false := by rw [beq_eq_false_iff_ne]; exact h1
          clear h1
          go_wp2_with fail
          refine (kindV_any (HLT.out.2.2.1) HKB.out _).mono ?_; rintro x w3 ⟨rfl, rfl⟩
          rw [d1] at HBD
          go_wp2_with fail
          go_roundw
          case rel => exact ⟨2, by omega, rfl, by rw [HBD.out]; first | rfl | simp [*], HN.out⟩
          case measure => simp [intOf]
      · go_wp2_with fail
        go_roundw
        case rel => exact ⟨2, by omega, rfl, by rw [HBD.out]; first | rfl | simp [*], HN.out⟩
        case measure => simp [intOf]
    · have HN := Lib.hid (HQ.out.step2)
      have HB1 := Lib.hid ((HQ.out.bb.far (p := ⟨n5, 2, none⟩) (by have := HQ.out.hn; show ¬ _ = n5; omega) (.float .f64 a2)).cell 2)
      have ca : wr.cell? ⟨w.heap.size, 2, none⟩ = some (.int .u64 a2) := HQ.out.ab.cell 2
      have cb : (wr.setCell ⟨n5, 2, none⟩ (.float .f64 a2)).cell? ⟨w.heap.size + 1, 2, none⟩ = some (.int .u64 b2) := HB1.out
      have cx : wr.cell? ⟨n5, 2, none⟩ = some (.float .f64 0) := HQ.out.xb.cell 2
      have fx : wr.frozen? ⟨n5, 2, none⟩ = false := HQ.out.xb.frozen 2
      have HY1 := Lib.hid (HQ.out.yb.far (p := ⟨n5, 2, none⟩) (by show ¬ _ = n5; omega) (.float .f64 a2))
      have cy : (wr.setCell ⟨n5, 2, none⟩ (.float .f64 a2)).cell? ⟨n5 + 1, 2, none⟩ = some (.float .f64 0) := HY1.out.cell 2
      have fy : (wr.setCell ⟨n5, 2, none⟩ (.float .f64 a2)).frozen? ⟨n5 + 1, 2, none⟩ = false := HY1.out.frozen 2
      have fb1 := frombits_run a2 wr
      have fb2 := frombits_run b2 (wr.setCell ⟨n5, 2, none⟩ (.float .f64 a2))
      have cx2 : ((wr.setCell ⟨n5, 2, none⟩ (.float .f64 a2)).setCell ⟨n5 + 1, 2, none⟩ (.float .f64 b2)).cell? ⟨n5, 2, none⟩ = some (.float .f64 a2) := HN.out.xb.cell 2
      have cy2 : ((wr.setCell ⟨n5, 2, none⟩ (.float .f64 a2)).setCell ⟨n5 + 1, 2, none⟩ (.float .f64 b2)).cell? ⟨n5 + 1, 2, none⟩ = some (.float .f64 b2) := HN.out.yb.cell 2
      have HBD := Lib.hid (show bdTo a0 a1 a2 b0 b1 b2 3 = (bdTo a0 a1 a2 b0 b1 b2 2 || (kindN a2 == 1 || kindN b2 == 1)) from rfl)
      obtain ⟨ka, hka⟩ : ∃ x, kindN a2 = x := ⟨_, rfl⟩
      obtain ⟨kb, hkb⟩ : ∃ x, kindN b2 = x := ⟨_, rfl⟩
      have HKA := Lib.hid hka
      have HKB := Lib.hid hkb
      clear hka hkb
      rw [HKA.out, HKB.out] at HBD
      generalize bdTo a0 a1 a2 b0 b1 b2 2 = bd at *
      cases bd
      · go_wp2_with fail
        refine (kindV_any (HLT.out.1.2.2) HKA.out _).mono ?_; rintro x w2 ⟨rfl, rfl⟩
        by_cases h1 : ka = 1
        · subst h1
          go_wp2_with fail
          go_roundw
          case rel => exact ⟨3, by omega, rfl, by rw [HBD.out]; first | rfl | simp [*], HN.out⟩
          case measure => simp [intOf]
        · have d1 : (ka == 1) = false := by rw [beq_eq_false_iff_ne]; exact h1
          clear h1
          go_wp2_with fail
          refine (kindV_any (HLT.out.2.2.2) HKB.out _).mono ?_; rintro x w3 ⟨rfl, rfl⟩
          rw [d1] at HBD
          go_wp2_with fail
          go_roundw
          case rel => exact ⟨3, by omega, rfl, by rw [HBD.out]; first | rfl | simp [*], HN.out⟩
          case measure => simp [intOf]
      · go_wp2_with fail
        go_roundw
        case rel => exact ⟨3, by omega, rfl, by rw [HBD.out]; first | rfl | simp [*], HN.out⟩
        case measure => simp [intOf]
    · have x0 : wr.cell? ⟨n5, 0, none⟩ = some (.float .f64 a0) := HQ.out.xb.cell 0
      have x1 : wr.cell? ⟨n5, 1, none⟩ = some (.float .f64 a1) := HQ.out.xb.cell 1
      have x2 : wr.cell? ⟨n5, 2, none⟩ = some (.float .f64 a2) := HQ.out.xb.cell 2
      have y0 : wr.cell? ⟨n5 + 1, 0, none⟩ = some (.float .f64 b0) := HQ.out.yb.cell 0
      have y1 : wr.cell? ⟨n5 + 1, 1, none⟩ = some (.float .f64 b1) := HQ.out.yb.cell 1
      have y2 : wr.cell? ⟨n5 + 1, 2, none⟩ = some (.float .f64 b2) := HQ.out.yb.cell 2
      have HRD := Lib.hid (Rds.made wr encG [(⟨⟨#[112]⟩, b0, b1, b2⟩ : Ug)] 47 #[.string ⟨#[112]⟩, .float .f64 b0, .float .f64 b1, .float .f64 b2] (0, 0) rfl)
      have HQ := Lib.hid (HQ.out.below ((Below.refl _ wr).alloc (Nat.le_refl _) (.cells #[.string ⟨#[112]⟩, .float .f64 b0, .float .f64 b1, .float .f64 b2] 47)))
      have HIF := Lib.hid (fun N => whole_right (a0 := a0) (a1 := a1) (a2 := a2) (b0 := b0) (b1 := b1) (b2 := b2) N)
      have HWF := Lib.hid (fun N W (h : Rds W encG (some ⟨N, 0, none⟩) [(⟨⟨#[112]⟩, b0, b1, b2⟩ : Ug)]) => whole_wf HLT.out h)
      obtain ⟨bd, hbd⟩ : ∃ x, bdTo a0 a1 a2 b0 b1 b2 3 = x := ⟨_, rfl⟩
      rw [hbd]
      have HBD := Lib.hid hbd
      clear hbd
      go_wp2_with fail
      cases bd
      · have HRT := Lib.hid ((HIF.out wr.heap.size).2 HBD.out)
        obtain ⟨p0, p1, p2, HP⟩ : ∃ x y z, Hid (readN a0 = x ∧ readN a1 = y ∧ readN a2 = z) := ⟨_, _, _, ⟨rfl, rfl, rfl⟩⟩
        obtain ⟨q0, q1, q2, HQB⟩ : ∃ x y z, Hid (readN b0 = x ∧ readN b1 = y ∧ readN b2 = z) := ⟨_, _, _, ⟨rfl, rfl, rfl⟩⟩
        have hp0 : 0 ≤ p0 := by rw [← HP.out.1]; exact (readN_bd _).1
        have hp1 : 0 ≤ p1 := by rw [← HP.out.2.1]; exact (readN_bd _).1
        have hp2 : 0 ≤ p2 := by rw [← HP.out.2.2]; exact (readN_bd _).1
        have hq0 : 0 ≤ q0 := by rw [← HQB.out.1]; exact (readN_bd _).1
        have hq1 : 0 ≤ q1 := by rw [← HQB.out.2.1]; exact (readN_bd _).1
        have hq2 : 0 ≤ q2 := by rw [← HQB.out.2.2]; exact (readN_bd _).1
        have HL1 := Lib.hid (whole_read (b0 := b0) (b1 := b1) (b2 := b2) HQB.out)
        refine (sread_walk _ ⟨fun _ => HRT.out, fun _ => rfl⟩ (HWF.out _ _ HRD.out) HP.out.1 HP.out.2.1 HP.out.2.2).mono ?_; rintro e w2 ⟨As, cs, rfl, ho, hb⟩
        rw [HL1.out] at ho ⊢
        have HQ := Lib.hid (HQ.out.below hb)
        have HU := Lib.hid ho.toRds
        have HN0 := Lib.hid (Blk.new w2 32 #[.int .i64 0, .int .i64 0, .int .i64 0, .int .i64 0, .slice none 0 0])
        clear ho hb x0 x1 x2 y0 y1 y2 HRD
        simp only [List.length_singleton]
        go_wp2_with (refine wl_store_blk rfl 32 (.tmp 9) (.tmp 56) rfl w2.heap.size 32 #[.int .i64 0, .int .i64 0, .int .i64 0, .int .i64 0, .slice none 0 0] #[.int .i64 1, .int .i64 p0, .int .i64 p1, .int .i64 p2, .slice As 1 cs] rfl rfl HN0.out rfl szS (by simp [Value.oneCell']) ?_; intro w3 hN1 hg1 hs1; have HS := Lib.hid hN1; have HBF := Lib.hid (below_fresh hg1); have HQ := Lib.hid (HQ.out.below HBF.out); have HU := Lib.hid (HU.out.below HBF.out); have ks : ∀ i, w3.cell? ⟨w2.heap.size, i, none⟩ = (#[.int .i64 1, .int .i64 p0, .int .i64 p1, .int .i64 p2, .slice As 1 cs] : Array Value)[i]? := HS.out.cell; clear hN1 hg1 hs1)
        clear HN0 HBF
        generalize w2.heap.size = n9 at *
        obtain ⟨b9, off, hA, _, u0, u1, u2, u3⟩ := HU.out.us (i := 0) (Nat.zero_lt_succ _)
        obtain rfl : As = some ⟨b9, off, none⟩ := hA
        clear u0 u1 u2 u3 ks
        go_loopw [11] (fun i wr => ∃ k : Nat, k ≤ 3 ∧ i = .int .i64 k ∧ WQ a0 a1 a2 b0 b1 b2 n5 3 w wr ∧ Blk wr n9 32 #[.int .i64 1, .int .i64 p0, .int .i64 p1, .int .i64 p2, .slice (some ⟨b9, off, none⟩) 1 cs] ∧ Rds wr encU (some ⟨b9, off, none⟩) [(⟨⟨#[112]⟩, q0, q1, q2⟩ : Us)]) (fun i _ => 3 - (intOf i).toNat)
        case atStart => exact ⟨0, by omega, rfl, HQ.out, HS.out, HU.out⟩
        case round =>
          clear HQ HS HU
          obtain ⟨k, hk, rfl, hq, hs, hu⟩ := hrel
          have HQ := Lib.hid hq
          have HS := Lib.hid hs
          have HU := Lib.hid hu
          clear hq hs hu
          obtain ⟨b', off', hA, _, u0, u1, u2, u3⟩ := HU.out.us (i := 0) (Nat.zero_lt_succ _)
          cases hA
          simp only [List.getElem_cons_zero, Nat.zero_mul, Nat.add_zero] at u0 u1 u2 u3
          have ks := HS.out.cell
          obtain rfl | rfl | rfl | rfl : k = 0 ∨ k = 1 ∨ k = 2 ∨ k = 3 := by omega
          · have cx : wr.cell? ⟨n5, 0, none⟩ = some (.float .f64 a0) := HQ.out.xb.cell 0
            have cy : wr.cell? ⟨n5 + 1, 0, none⟩ = some (.float .f64 b0) := HQ.out.yb.cell 0
            have dp : decide (p0 < 0) = false := decide_eq_false (by omega)
            have dq : decide (q0 < 0) = false := decide_eq_false (by omega)
            have ep : (p0 != p0) = false := by simp
            have eq : (q0 != q0) = false := by simp
            go_wp2_with fail
            refine (readV_any (HLT.out.1.1) HP.out.1 rfl _).mono ?_; rintro x w4 ⟨rfl, rfl⟩
            go_wp2_with fail
            refine (readV_any (HLT.out.2.1) HQB.out.1 rfl _).mono ?_; rintro x w4 ⟨rfl, rfl⟩
            go_wp2_with fail
            go_roundw
            case rel => exact ⟨1, by omega, rfl, HQ.out, HS.out, HU.out⟩
            case measure => simp [intOf]
          · have cx : wr.cell? ⟨n5, 1, none⟩ = some (.float .f64 a1) := HQ.out.xb.cell 1
            have cy : wr.cell? ⟨n5 + 1, 1, none⟩ = some (.float .f64 b1) := HQ.out.yb.cell 1
            have dp : decide (p1 < 0) = false := decide_eq_false (by omega)
            have dq : decide (q1 < 0) = false := decide_eq_false (by omega)
            have ep : (p1 != p1) = false := by simp
            have eq : (q1 != q1) = false := by simp
            go_wp2_with fail
            refine (readV_any (HLT.out.1.2.1) HP.out.2.1 rfl _).mono ?_; rintro x w4 ⟨rfl, rfl⟩
            go_wp2_with fail
            refine (readV_any (HLT.out.2.2.1) HQB.out.2.1 rfl _).mono ?_; rintro x w4 ⟨rfl, rfl⟩
            go_wp2_with fail
            go_roundw
            case rel => exact ⟨2, by omega, rfl, HQ.out, HS.out, HU.out⟩
            case measure => simp [intOf]
          · have cx : wr.cell? ⟨n5, 2, none⟩ = some (.float .f64 a2) := HQ.out.xb.cell 2
            have cy : wr.cell? ⟨n5 + 1, 2, none⟩ = some (.float .f64 b2) := HQ.out.yb.cell 2
            have dp : decide (p2 < 0) = false := decide_eq_false (by omega)
            have dq : decide (q2 < 0) = false := decide_eq_false (by omega)
            have ep : (p2 != p2) = false := by simp
            have eq : (q2 != q2) = false := by simp
            go_wp2_with fail
            refine (readV_any (HLT.out.1.2.2) HP.out.2.2 rfl _).mono ?_; rintro x w4 ⟨rfl, rfl⟩
            go_wp2_with fail
            refine (readV_any (HLT.out.2.2.2) HQB.out.2.2 rfl _).mono ?_; rintro x w4 ⟨rfl, rfl⟩
            go_wp2_with fail
            go_roundw
            case rel => exact ⟨3, by omega, rfl, HQ.out, HS.out, HU.out⟩
            case measure => simp [intOf]
          · go_wp2_with fail
            go_ret
            exact ⟨rfl, HQ.out.bel⟩
      · refine (sread_any (v := false) (rno fun h => by have := (HIF.out wr.heap.size).1 h; rw [HBD.out] at this; cases this) _ (HWF.out _ _ HRD.out)).mono ?_; rintro e w2 ⟨rfl, hb⟩
        have HQ := Lib.hid (HQ.out.below hb)
        clear hb x0 x1 x2 y0 y1 y2
        go_wp2_with fail
        go_ret
        exact ⟨rfl, HQ.out.bel.alloc HQ.out.bel.size _⟩
end Go.Proofs.YtampjkgkiooibaaDoor
