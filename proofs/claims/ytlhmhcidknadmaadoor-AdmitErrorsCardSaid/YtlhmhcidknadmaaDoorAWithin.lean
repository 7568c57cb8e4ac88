/- bilgeref23.Pods, bilgeref23.Within: the pods of a table; whether their exact sums are within a room. -/
import Derived.Test.YtlhmhcidknadmaaDoorARight
import Derived.Test.YtlhmhcidknadmaaDoorVExact
namespace Go.Proofs.YtlhmhcidknadmaaDoor
open Go.RowKit

theorem exWord {H N S r : Int} (h : H * 18446744073709551616 + N = S) (h0 : 0 ≤ H) (n0 : 0 ≤ N) (n1 : N < 18446744073709551616) (_hr : r ≤ 9223372036854775807) : decide (S < most ∧ S ≤ r) = (!(decide (0 < H)) && (!(decide (9223372036854775807 ≤ N)) && !(decide (r < N)))) := by
  rw [Bool.eq_iff_iff]
  unfold most
  simp only [Bool.and_eq_true, Bool.not_eq_true', decide_eq_false_iff_not, decide_eq_true_eq]
  omega
theorem right_q {p : Pd} (h : p.right = true) : 0 ≤ p.q0 ∧ 0 ≤ p.q1 ∧ 0 ≤ p.q2 := by
  unfold Pd.right Pd.amountsOk bad at h
  simp only [Bool.and_eq_true, Bool.not_eq_true', Bool.or_eq_false_iff, decide_eq_false_iff_not] at h
  omega
set_option maxRecDepth 100000 in
set_option maxHeartbeats 8000000 in
theorem pods_any (l : List En) (A : Option Addr) (c : Nat) (w : World) (hr : Rds w encN A l) (hn : l.length ≤ 50000) :
    Calls Tryd.prog 14 #[.slice A l.length c] w fun e w' => ∃ A c, e = .returned (.slice A (podsD l).length c) ∧ Own w' w.heap.size 29 encP (.slice A (podsD l).length c) (podsD l) ∧ Below w.heap.size w w' := by
  have HR := Lib.hid hr
  clear hr
  go_enter Tryd.func14, Tryd.ntmps14
  go_wp2_with fail
  go_loopw [3, 4] (fun st ii wr => ∃ (i : Nat) (A1 : Option Addr) (c1 : Nat), i ≤ l.length ∧ ii = .int .i64 i ∧ st = .slice A1 (podsD (l.take i)).length c1 ∧ Own wr w.heap.size 29 encP (.slice A1 (podsD (l.take i)).length c1) (podsD (l.take i)) ∧ Below w.heap.size w wr) (fun _ ii _ => l.length - (intOf ii).toNat)
  case atStart => exact ⟨0, none, 0, by omega, rfl, rfl, Own.nil_ _ _ _ _, Below.refl _ _⟩
  case round =>
    obtain ⟨i, A1, c1, hi, rfl, rfl, ho, hbl⟩ := hrel
    have HP := Lib.hid (And.intro ho hbl)
    clear ho hbl
    have HSL : Hid ((podsD (l.take i)).length ≤ l.length) := by show _ ≤ _; rw [podsD_len, List.length_take]; omega
    by_cases hlt : i < l.length
    · have dk : decide ((i : Int) < (l.length : Int)) = true := decide_eq_true (by omega)
      have dk2 : (i : Int) < (l.length : Int) := by omega
      obtain ⟨b0, off, hA, _⟩ := HR.out.en hlt
      obtain rfl : A = some ⟨b0, off, none⟩ := hA
      have HXI := Lib.hid (List.getElem?_eq_getElem hlt)
      have HSN := Lib.hid (podsD_snoc l i hlt)
      generalize podsD (l.take i) = S at *
      generalize l[i] = x at *
      obtain ⟨x0, x1, x2, x3, x4, x5, x6, x7, x8, x9, x10, x11⟩ := HR.out.enAt HP.out.2 HXI.out
      go_wp2_with (at_builtin; refine wl_push elemP encP rfl (.tmp 11) (.tmp 17) rfl x.pod #[.string x.pod.id, .int .i64 x.pod.prio, .bool x.pod.crit, .int .i64 x.pod.q0, .int .i64 x.pod.q1, .int .i64 x.pod.q2, .int .i64 x.pod.l0, .int .i64 x.pod.l1, .int .i64 x.pod.l2, .string x.pod.image, .int .i64 x.pod.size] rfl w.heap.size _ S rfl HP.out.1 rfl rfl HP.out.2 (by have := HSL.out; omega) (by have := HSL.out; omega) HP.out.2.size ?_; intro A3 k3 w4 ho hb _; have HX3 := Lib.hid (And.intro ho hb); clear ho hb)
      go_roundw
      case rel => exact ⟨i + 1, A3, k3, by omega, by go_num, by rw [HSN.out, List.length_append]; rfl, by rw [HSN.out]; exact own_len1 HX3.out.1, HX3.out.2⟩
      case measure => simp [intOf]; omega
    · obtain rfl : i = l.length := by omega
      have dk : decide ((l.length : Int) < (l.length : Int)) = false := by simp
      rw [List.take_length] at HP ⊢
      go_wp2_with fail
      go_ret
      exact ⟨A1, c1, rfl, HP.out.1, HP.out.2⟩
def GivesF (room : S3) (L : List Pd) (w : World) (e : Ending) (w' : World) : Prop := e = .returned (.bool (fitsB room L)) ∧ Below w.heap.size w w'
set_option maxRecDepth 100000 in
set_option maxHeartbeats 8000000 in
theorem within_any (room : S3) (L : List Pd) (A : Option Addr) (c : Nat) (w : World) (hr : Rds w encP A L) (hl : L.length ≤ 64) (hq : ∀ x ∈ L, x.Wf ∧ x.right = true) (ha : 0 ≤ room.a ∧ room.a ≤ 9223372036854775807) (hb : 0 ≤ room.b ∧ room.b ≤ 9223372036854775807) (hc : 0 ≤ room.c ∧ room.c ≤ 9223372036854775807) :
    Calls Tryd.prog 15 #[.agg #[.int .i64 room.a, .int .i64 room.b, .int .i64 room.c], .slice A L.length c] w (GivesF room L w) := by
  have HQ0 := Lib.hid (show ∀ x ∈ L, 0 ≤ x.q0 ∧ x.q0 ≤ 9223372036854775807 from fun x hx => ⟨(right_q (hq x hx).2).1, (hq x hx).1.q0.2⟩)
  have HQ1 := Lib.hid (show ∀ x ∈ L, 0 ≤ x.q1 ∧ x.q1 ≤ 9223372036854775807 from fun x hx => ⟨(right_q (hq x hx).2).2.1, (hq x hx).1.q1.2⟩)
  have HQ2 := Lib.hid (show ∀ x ∈ L, 0 ≤ x.q2 ∧ x.q2 ≤ 9223372036854775807 from fun x hx => ⟨(right_q (hq x hx).2).2.2, (hq x hx).1.q2.2⟩)
  have hwa : IntKind.u64.wrap room.a = room.a := by rw [IntKind.wrap_u64]; omega
  have hwb : IntKind.u64.wrap room.b = room.b := by rw [IntKind.wrap_u64]; omega
  have hwc : IntKind.u64.wrap room.c = room.c := by rw [IntKind.wrap_u64]; omega
  obtain ⟨G0, hG0⟩ : ∃ g, g = decide (ex0 0 L < most ∧ ex0 0 L ≤ room.a) := ⟨_, rfl⟩
  obtain ⟨G1, hG1⟩ : ∃ g, g = decide (ex1 0 L < most ∧ ex1 0 L ≤ room.b) := ⟨_, rfl⟩
  obtain ⟨G2, hG2⟩ : ∃ g, g = decide (ex2 0 L < most ∧ ex2 0 L ≤ room.c) := ⟨_, rfl⟩
  have HFB := Lib.hid (fitsB_exact room L fun x hx => right_q (hq x hx).2)
  rw [← hG0, ← hG1, ← hG2] at HFB
  have HE0 := Lib.hid hG0
  have HE1 := Lib.hid hG1
  have HE2 := Lib.hid hG2
  have HB := Lib.hid (And.intro (Blk.new w 22 #[.int .i64 room.a, .int .i64 room.b, .int .i64 room.c]) ((Below.refl w.heap.size w).alloc (Nat.le_refl _) (.cells #[.int .i64 room.a, .int .i64 room.b, .int .i64 room.c] 22)))
  have HR := Lib.hid hr
  clear hG0 hG1 hG2 hr hq
  go_enter Tryd.func15, Tryd.ntmps15
  go_wp2_with fail
  generalize (w.alloc (.cells #[.int .i64 room.a, .int .i64 room.b, .int .i64 room.c] 22)) = w1 at *
  go_loopw [4, 5, 6, 7] (fun rr kk hh nn wr => ∃ k : Nat, k ≤ 3 ∧ kk = .int .i64 k ∧ ((0 < k → G0 = true) ∧ (1 < k → G1 = true) ∧ (2 < k → G2 = true)) ∧ (Blk wr w.heap.size 22 #[.int .i64 room.a, .int .i64 room.b, .int .i64 room.c] ∧ Below w.heap.size w wr)) (fun _ kk _ _ _ => 3 - (intOf kk).toNat)
  case atStart => exact ⟨0, by omega, rfl, ⟨fun h => by omega, fun h => by omega, fun h => by omega⟩, HB.out⟩
  case round =>
    clear HB
    obtain ⟨k, hk, rfl, hg, hbl⟩ := hrel
    have HG := Lib.hid hg
    have HP := Lib.hid hbl
    clear hg hbl
    obtain rfl | rfl | rfl | rfl : k = 0 ∨ k = 1 ∨ k = 2 ∨ k = 3 := by omega
    · have c0 : wr.cell? ⟨w.heap.size, 0, none⟩ = some (.int .i64 room.a) := HP.out.1.cell 0
      go_wp2_with fail
      refine (exact0_any L A c _ (HR.out.below HP.out.2) hl HQ0.out).mono ?_; rintro e w2 ⟨H, N, rfl, hS, hH0, hN0, hN1, rfl⟩
      have HX0 := Lib.hid (exWord hS hH0 hN0 hN1 ha.2)
      clear hS
      cases d1 : decide (0 < H)
      · cases d2 : decide (9223372036854775807 ≤ N)
        · cases d3 : decide (room.a < N)
          · have HGT : Hid (G0 = true) := by show _ = _; rw [HE0.out, HX0.out]; simp only [d1, d2, d3]; rfl
            go_wp2_with fail
            go_roundw
            case rel => exact ⟨1, by omega, by rfl, ⟨fun _ => HGT.out, fun h => by omega, fun h => by omega⟩, HP.out⟩
            case measure => simp [intOf]
          · have HGF : Hid (G0 = false) := by show _ = _; rw [HE0.out, HX0.out]; simp only [d1, d2, d3]; rfl
            go_wp2_with fail
            go_ret
            exact ⟨by rw [HFB.out, HGF.out]; simp, HP.out.2⟩
        · have HGF : Hid (G0 = false) := by show _ = _; rw [HE0.out, HX0.out]; simp only [d1, d2]; rfl
          go_wp2_with fail
          go_ret
          exact ⟨by rw [HFB.out, HGF.out]; simp, HP.out.2⟩
      · have HGF : Hid (G0 = false) := by show _ = _; rw [HE0.out, HX0.out]; simp only [d1]; rfl
        go_wp2_with fail
        go_ret
        exact ⟨by rw [HFB.out, HGF.out]; simp, HP.out.2⟩
    · have c0 : wr.cell? ⟨w.heap.size, 1, none⟩ = some (.int .i64 room.b) := HP.out.1.cell 1
      go_wp2_with fail
      refine (exact1_any L A c _ (HR.out.below HP.out.2) hl HQ1.out).mono ?_; rintro e w2 ⟨H, N, rfl, hS, hH0, hN0, hN1, rfl⟩
      have HX1 := Lib.hid (exWord hS hH0 hN0 hN1 hb.2)
      clear hS
      cases d1 : decide (0 < H)
      · cases d2 : decide (9223372036854775807 ≤ N)
        · cases d3 : decide (room.b < N)
          · have HGT : Hid (G1 = true) := by show _ = _; rw [HE1.out, HX1.out]; simp only [d1, d2, d3]; rfl
            go_wp2_with fail
            go_roundw
            case rel => exact ⟨2, by omega, by rfl, ⟨fun _ => HG.out.1 (by omega), fun _ => HGT.out, fun h => by omega⟩, HP.out⟩
            case measure => simp [intOf]
          · have HGF : Hid (G1 = false) := by show _ = _; rw [HE1.out, HX1.out]; simp only [d1, d2, d3]; rfl
            go_wp2_with fail
            go_ret
            exact ⟨by rw [HFB.out, HGF.out]; simp, HP.out.2⟩
        · have HGF : Hid (G1 = false) := by show _ = _; rw [HE1.out, HX1.out]; simp only [d1, d2]; rfl
          go_wp2_with fail
          go_ret
          exact ⟨by rw [HFB.out, HGF.out]; simp, HP.out.2⟩
      · have HGF : Hid (G1 = false) := by show _ = _; rw [HE1.out, HX1.out]; simp only [d1]; rfl
        go_wp2_with fail
        go_ret
        exact ⟨by rw [HFB.out, HGF.out]; simp, HP.out.2⟩
    · have c0 : wr.cell? ⟨w.heap.size, 2, none⟩ = some (.int .i64 room.c) := HP.out.1.cell 2
      go_wp2_with fail
      refine (exact2_any L A c _ (HR.out.below HP.out.2) hl HQ2.out).mono ?_; rintro e w2 ⟨H, N, rfl, hS, hH0, hN0, hN1, rfl⟩
      have HX2 := Lib.hid (exWord hS hH0 hN0 hN1 hc.2)
      clear hS
      cases d1 : decide (0 < H)
      · cases d2 : decide (9223372036854775807 ≤ N)
        · cases d3 : decide (room.c < N)
          · have HGT : Hid (G2 = true) := by show _ = _; rw [HE2.out, HX2.out]; simp only [d1, d2, d3]; rfl
            go_wp2_with fail
            go_roundw
            case rel => exact ⟨3, by omega, by rfl, ⟨fun _ => HG.out.1 (by omega), fun _ => HG.out.2.1 (by omega), fun _ => HGT.out⟩, HP.out⟩
            case measure => simp [intOf]
          · have HGF : Hid (G2 = false) := by show _ = _; rw [HE2.out, HX2.out]; simp only [d1, d2, d3]; rfl
            go_wp2_with fail
            go_ret
            exact ⟨by rw [HFB.out, HGF.out]; simp, HP.out.2⟩
        · have HGF : Hid (G2 = false) := by show _ = _; rw [HE2.out, HX2.out]; simp only [d1, d2]; rfl
          go_wp2_with fail
          go_ret
          exact ⟨by rw [HFB.out, HGF.out]; simp, HP.out.2⟩
      · have HGF : Hid (G2 = false) := by show _ = _; rw [HE2.out, HX2.out]; simp only [d1]; rfl
        go_wp2_with fail
        go_ret
        exact ⟨by rw [HFB.out, HGF.out]; simp, HP.out.2⟩
    · go_wp2_with fail
      go_ret
      exact ⟨by rw [HFB.out, HG.out.1 (by omega), HG.out.2.1 (by omega), HG.out.2.2 (by omega)]; rfl, HP.out.2⟩
end Go.Proofs.YtlhmhcidknadmaaDoor
