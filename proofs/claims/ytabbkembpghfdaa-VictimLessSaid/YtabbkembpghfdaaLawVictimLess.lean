/- bilgelaw21.VictimLess: of pods that fit each part fits; with more room they fit, too. -/
import Derived.Test.YtabbkembpghfdaaLawVictimNobody
import Derived.Test.YtabbkembpghfdaaVPlain2
namespace Go.Proofs.Ytabbkembpghfdaa
open Go.RowKit

def xX : Pd := ⟨⟨#[120]⟩, 0, false, 0, 0, 0, 0, 0, 0, ⟨#[120]⟩, 0⟩
theorem wfX : xX.Wf := by constructor <;> first | exact ⟨by dsimp only [xX]; decide, by dsimp only [xX]; decide⟩ | (dsimp only [xX]; decide)
theorem refFitX {room : S3} {l : List Pd} {v : Bool} (hv : v = true ↔ FitV room l xX) (A : Option Addr) (c : Nat) (w : World) (hr : Rds w encP A l) (hw : ∀ x ∈ l, x.Wf) (hm : l.length ≤ 9223372036854775807) :
    Calls Try.prog 13 #[.agg #[.int .i64 room.a, .int .i64 room.b, .int .i64 room.c], .slice A l.length c, .agg #[.string ⟨#[120]⟩, .int .i64 0, .bool false, .int .i64 0, .int .i64 0, .int .i64 0, .int .i64 0, .int .i64 0, .int .i64 0, .string ⟨#[120]⟩, .int .i64 0]] w fun e w' => e = .returned (.bool v) ∧ Below w.heap.size w w' := refFitV_any hv A c w hr hw wfX hm
theorem fit1_room {r r' n : Int} (h : r ≤ r') (hf : fit1 r n = true) : fit1 r' n = true := by
  unfold fit1 at *
  simp only [Bool.and_eq_true, Bool.not_eq_true', beq_eq_false_iff_ne, decide_eq_false_iff_not] at *
  omega
theorem fitsB_room {room wide : S3} {l : List Pd} (h : room.le wide) (hf : fitsB room l = true) : fitsB wide l = true := by
  unfold fitsB S3.fits at *
  simp only [Bool.and_eq_true] at *
  exact ⟨fit1_room h.1 hf.1, fit1_room h.2.1 hf.2.1, fit1_room h.2.2 hf.2.2⟩
theorem fitsB_nil {room : S3} (ha : 0 ≤ room.a) (hb : 0 ≤ room.b) (hc : 0 ≤ room.c) : fitsB room [] = true := by
  have ea : decide (room.a < 0) = false := decide_eq_false (by omega)
  have eb : decide (room.b < 0) = false := decide_eq_false (by omega)
  have ec : decide (room.c < 0) = false := decide_eq_false (by omega)
  show ((!((0 : Int) == 9223372036854775807) && !decide (room.a < 0)) && ((!((0 : Int) == 9223372036854775807) && !decide (room.b < 0)) && (!((0 : Int) == 9223372036854775807) && !decide (room.c < 0)))) = true
  rw [ea, eb, ec]
  rfl
structure LQ (room : S3) (m0 m1 m2 : Int) (w W : World) : Prop where
  rm : Blk W (w.heap.size) 22 #[.int .i64 room.a, .int .i64 room.b, .int .i64 room.c]
  mo : Blk W (w.heap.size + 1) 42 #[.int .u16 m0, .int .u16 m1, .int .u16 m2]
  bel : Below w.heap.size w W
theorem LQ.below {room : S3} {m0 m1 m2 : Int} {w W W' : World} (h : LQ room m0 m1 m2 w W) (hb : Below W.heap.size W W') : LQ room m0 m1 m2 w W' := ⟨h.rm.belowAll hb, h.mo.belowAll hb, h.bel.trans (hb.mono h.bel.size)⟩
theorem LQ.alloc {room : S3} {m0 m1 m2 : Int} {w W : World} (h : LQ room m0 m1 m2 w W) (o : Obj) : LQ room m0 m1 m2 w (W.alloc o) := ⟨h.rm.alloc o, h.mo.alloc o, h.bel.alloc h.bel.size o⟩
theorem LQ.drew {room : S3} {m0 m1 m2 : Int} {w W : World} (h : LQ room m0 m1 m2 w W) : LQ room m0 m1 m2 w W.drew := ⟨h.rm.drew, h.mo.drew, h.bel.drew⟩
theorem LQ.new (room : S3) (m0 m1 m2 : Int) (w : World) : LQ room m0 m1 m2 w ((w.alloc (.cells #[.int .i64 room.a, .int .i64 room.b, .int .i64 room.c] 22)).alloc (.cells #[.int .u16 m0, .int .u16 m1, .int .u16 m2] 42)) := by
  have z1 : (w.alloc (.cells #[.int .i64 room.a, .int .i64 room.b, .int .i64 room.c] 22)).heap.size = w.heap.size + 1 := by simp
  have b0 := Blk.new w 22 #[.int .i64 room.a, .int .i64 room.b, .int .i64 room.c]
  have b1 := Blk.new (w.alloc (.cells #[.int .i64 room.a, .int .i64 room.b, .int .i64 room.c] 22)) 42 #[.int .u16 m0, .int .u16 m1, .int .u16 m2]
  rw [z1] at b1
  have bel : Below w.heap.size w ((w.alloc (.cells #[.int .i64 room.a, .int .i64 room.b, .int .i64 room.c] 22)).alloc (.cells #[.int .u16 m0, .int .u16 m1, .int .u16 m2] 42)) := ((Below.refl w.heap.size w).alloc (Nat.le_refl _) _).alloc (by rw [z1]; omega) _
  exact ⟨(b0.alloc _), b1, bel⟩

theorem LQ.setFar {room : S3} {m0 m1 m2 : Int} {w W : World} (h : LQ room m0 m1 m2 w W) {p : Addr} (hp : w.heap.size + 1 < p.block) (u : Value) : LQ room m0 m1 m2 w (W.setCell p u) :=
  ⟨h.rm.far (by omega) u, h.mo.far (by omega) u, h.bel.setCell (by omega) u⟩
theorem fitsN {room : S3} {l : List Pd} {n : Nat} (hn : n = l.length) {v : Bool} (hv : fitsB room l = v) {A : Option Addr} {c : Nat} {w : World} (hr : Rds w encP A l) (hwf : ∀ p ∈ l, p.Wf) (hm : l.length ≤ 200000) :
    Calls Try.prog 18 #[.agg #[.int .i64 room.a, .int .i64 room.b, .int .i64 room.c], .slice A n c] w fun e w' => e = .returned (.bool v) ∧ Below w.heap.size w w' := by subst hn; exact fitsV hv hr hwf hm
set_option maxRecDepth 100000 in
set_option maxHeartbeats 16000000 in
theorem victimLess_any (room : S3) (l : List Pd) (m0 m1 m2 z : Int) (Al : Option Addr) (cl : Nat) (w : World) (hr : Rds w encP Al l) (hw : ∀ x ∈ l, x.Wf) (hm0 : 0 ≤ m0 ∧ m0 ≤ 65535) (hm1 : 0 ≤ m1 ∧ m1 ≤ 65535) (hm2 : 0 ≤ m2 ∧ m2 ≤ 65535) (hm : l.length ≤ 9223372036854775807) :
    Calls Try.prog 10 #[.agg #[.int .i64 room.a, .int .i64 room.b, .int .i64 room.c], .slice Al l.length cl, .agg #[.int .u16 m0, .int .u16 m1, .int .u16 m2], .int .u64 z] w fun e w' => e = .returned (.bool true) ∧ Below w.heap.size w w' := by
  have mixed : Try.prog.follows Departure.mixedOrders = true := by kernel_rfl
  have HQ := Lib.hid (LQ.new room m0 m1 m2 w)
  have HR := Lib.hid hr
  have HW := Lib.hid hw
  clear hr hw
  go_enter Try.func10, Try.ntmps10
  go_wp2_with fail
  refine (awake21_any _).mono ?_; rintro e w1 ⟨rfl, hb⟩
  have HQ := Lib.hid (HQ.out.below hb)
  clear hb
  have crm := HQ.out.rm.cell
  by_cases hf : FitV room l xX
  rotate_left
  · go_wp2_with fail
    refine (refFitX (v := false) (room := room) (by simp [hf]) Al cl _ (HR.out.below HQ.out.bel) HW.out hm).mono ?_; rintro e w2 ⟨rfl, hb⟩
    have HQ := Lib.hid (HQ.out.below hb)
    clear hb crm hf
    go_wp2_with fail
    refine (awake21_any _).mono ?_; rintro e w3 ⟨rfl, hb⟩
    have HQ := Lib.hid (HQ.out.below hb)
    clear hb
    go_wp2_with fail
    go_ret
    exact ⟨rfl, HQ.out.bel⟩
  · have HF := Lib.hid hf
    go_wp2_with fail
    refine (refFitX (v := true) (room := room) (by simp [hf]) Al cl _ (HR.out.below HQ.out.bel) HW.out hm).mono ?_; rintro e w1 ⟨rfl, hb⟩
    have HQ := Lib.hid (HQ.out.below hb)
    have HRL := Lib.hid (HR.out.below HQ.out.bel)
    have hl := hf.len
    have hra0 := hf.a
    have hrb0 := hf.b
    have hrc0 := hf.c
    clear hb crm hf
    go_wp2_with fail
    go_loopw [9, 10] (fun st ii wr => ∃ (i : Nat) (P : List Pd) (A : Option Addr) (c : Nat), i ≤ l.length ∧ ii = .int .i64 i ∧ st = .slice A P.length c ∧ P.Sublist (l.take i) ∧ Own wr w1.heap.size 25 encP (.slice A P.length c) P ∧ Below w1.heap.size w1 wr) (fun _ ii _ => l.length - (intOf ii).toNat)
    case atStart => exact ⟨0, [], none, 0, by omega, rfl, rfl, List.Sublist.refl _, Own.nil_ _ _ _ _, Below.refl _ _⟩
    case round =>
      obtain ⟨i, P, A1, c1, hi, rfl, rfl, hsub, ho, hbl⟩ := hrel
      have HSUB := Lib.hid hsub
      have hPl := hsub.length_le
      rw [List.length_take] at hPl
      have HP := Lib.hid (And.intro ho hbl)
      have HRi := Lib.hid (HRL.out.below hbl)
      clear hsub ho hbl
      by_cases hlt : i < l.length
      · have dk : decide ((i : Int) < (l.length : Int)) = true := decide_eq_true (by omega)
        have dk2 : (i : Int) < (l.length : Int) := by omega
        have hwu : IntKind.u64.wrap (i : Int) = (i : Int) := by rw [IntKind.wrap_u64]; omega
        have hmin : min i 64 = i := by omega
        obtain ⟨b, off, hA⟩ := HR.out.some_ hlt
        obtain rfl : Al = some ⟨b, off, none⟩ := hA
        have HXI := Lib.hid (List.getElem?_eq_getElem hlt)
        have HTK := Lib.hid (List.take_succ_eq_append_getElem hlt)
        generalize l[i] = x at *
        obtain ⟨x0, x1, x2, x3, x4, x5, x6, x7, x8, x9, x10⟩ := HRi.out.pdAt (Below.refl _ _) HXI.out
        go_wp2_with (at_builtin; refine wl_push elemP encP rfl (.tmp 35) (.tmp 40) rfl x #[.string x.id, .int .i64 x.prio, .bool x.crit, .int .i64 x.q0, .int .i64 x.q1, .int .i64 x.q2, .int .i64 x.l0, .int .i64 x.l1, .int .i64 x.l2, .string x.image, .int .i64 x.size] rfl w1.heap.size _ P rfl HP.out.1 rfl rfl HP.out.2 (by omega) (by omega) HP.out.2.size ?_; intro A3 k3 w3 ho hb _; have HX3 := Lib.hid (And.intro ho hb); clear ho hb)
        · exact ⟨⟨i + 1, P ++ [x], A3, k3, by omega, by go_num, by simp, by rw [HTK.out]; exact HSUB.out.append (List.Sublist.refl _), own_len1 HX3.out.1, HX3.out.2⟩, by simp [intOf]; omega⟩
        · exact ⟨⟨i + 1, P, A1, c1, by omega, by go_num, rfl, by rw [HTK.out]; exact HSUB.out.trans (List.sublist_append_left _ _), HP.out.1, HP.out.2⟩, by simp [intOf]; omega⟩
      · obtain rfl : i = l.length := by omega
        have dk : decide ((l.length : Int) < (l.length : Int)) = false := by simp
        rw [List.take_length] at HSUB
        rename World => V1
        have HQ1 := Lib.hid (HQ.out.below HP.out.2)
        have crm := HQ1.out.rm.cell
        have HO1 := Lib.hid HP.out.1
        have HRL1 := Lib.hid HRi.out
        have HLT : Hid (w.heap.size + 1 < V1.heap.size) := HQ1.out.mo.lt
        clear HP HRi
        go_wp2_with fail
        have HBW := Lib.hid (Blk.new V1 22 #[.int .i64 room.a, .int .i64 room.b, .int .i64 room.c])
        have HBL := Lib.hid ((Below.refl V1.heap.size V1).alloc (Nat.le_refl _) (.cells #[.int .i64 room.a, .int .i64 room.b, .int .i64 room.c] 22))
        generalize (V1.alloc (.cells #[.int .i64 room.a, .int .i64 room.b, .int .i64 room.c] 22)) = V2 at *
        clear crm
        go_loopw [12] (fun kk wr => ∃ (k : Nat) (e0 e1 e2 : Int), k ≤ 3 ∧ kk = .int .i64 k ∧ room.a ≤ e0 ∧ room.b ≤ e1 ∧ room.c ≤ e2 ∧ Blk wr V1.heap.size 22 #[.int .i64 e0, .int .i64 e1, .int .i64 e2] ∧ Below V1.heap.size V1 wr) (fun kk _ => 3 - (intOf kk).toNat)
        case atStart => exact ⟨0, room.a, room.b, room.c, by omega, rfl, Int.le_refl _, Int.le_refl _, Int.le_refl _, HBW.out, HBL.out⟩
        case round =>
          clear HBW HBL
          obtain ⟨k, e0, e1, e2, hk, rfl, h0, h1, h2, hbw, hbl⟩ := hrel
          have HBW := Lib.hid hbw
          have HBL := Lib.hid hbl
          have HQ := Lib.hid (HQ1.out.below hbl)
          clear hbw hbl
          obtain rfl | rfl | rfl | rfl : k = 0 ∨ k = 1 ∨ k = 2 ∨ k = 3 := by omega
          · have c0 : wr.cell? ⟨w.heap.size, 0, none⟩ = some (.int .i64 room.a) := HQ.out.rm.cell 0
            by_cases hlo : room.a < 1000000000
            · have dlo : decide (room.a < 1000000000) = true := decide_eq_true hlo
              have hws : IntKind.i64.wrap (room.a + m0) = room.a + m0 := by rw [IntKind.wrap_i64]; omega
              have hwm : IntKind.i64.wrap m0 = m0 := by rw [IntKind.wrap_i64]; omega
              go_wp2_with fail
              have HQd := Lib.hid HQ.out.drew
              have HBd := Lib.hid HBW.out.drew
              have HLd := Lib.hid HBL.out.drew
              refine wp_region_held_drew (S := (fun w' => w'.cell? ⟨w.heap.size, 0, none⟩ = some (.int .i64 room.a) ∧ w'.cell? ⟨w.heap.size + 1, 0, none⟩ = some (.int .u16 m0))) (by kernel_rfl) (⟨HQd.out.rm.cell 0, HQd.out.mo.cell 0⟩) (fun hHeld => ?_)
              generalize hwd : World.drew _ = wd at HQd HBd HLd hHeld ⊢
              clear hwd
              have c2 : wd.cell? ⟨V1.heap.size, 0, none⟩ = some (.int .i64 e0) := HBd.out.cell 0
              have c3 := HBd.out.frozen 0
              refine held_take 0 51 (.int .i64 0) rfl rfl (by kernel_rfl) (by kernel_rfl) (by kernel_rfl) (fun _ _ _ h => h) (by rfl) (by intro w' hSw; (try dsimp only at hSw); go_simp; (try (with_reducible rfl))) (by assumption) ?_
              simp only [Act.put, List.setIfInBounds_toArray, List.set_cons_zero, List.set_cons_succ]
              refine held_take 1 52 (.int .i64 0) rfl rfl (by kernel_rfl) (by kernel_rfl) (by kernel_rfl) (fun _ _ _ h => h) (by rfl) (by intro w' hSw; (try dsimp only at hSw); go_simp; (try (with_reducible rfl))) (by assumption) ?_
              simp only [Act.put, List.setIfInBounds_toArray, List.set_cons_zero, List.set_cons_succ]
              refine held_take 2 53 (.pointer (some ⟨w.heap.size, 0, none⟩)) rfl rfl (by kernel_rfl) (by kernel_rfl) (by kernel_rfl) (fun _ _ _ h => h) (by rfl) (by intro w' hSw; (try dsimp only at hSw); go_simp; (try (with_reducible rfl))) (by assumption) ?_
              simp only [Act.put, List.setIfInBounds_toArray, List.set_cons_zero, List.set_cons_succ]
              refine held_take 3 54 (.int .i64 room.a) rfl rfl (by kernel_rfl) (by kernel_rfl) (by kernel_rfl) (fun _ _ _ h => h) (by rfl) (by intro w' hSw; (try dsimp only at hSw); go_simp; (try (with_reducible rfl))) (by assumption) ?_
              simp only [Act.put, List.setIfInBounds_toArray, List.set_cons_zero, List.set_cons_succ]
              refine held_take 4 55 (.int .i64 0) rfl rfl (by kernel_rfl) (by kernel_rfl) (by kernel_rfl) (fun _ _ _ h => h) (by rfl) (by intro w' hSw; (try dsimp only at hSw); go_simp; (try (with_reducible rfl))) (by assumption) ?_
              simp only [Act.put, List.setIfInBounds_toArray, List.set_cons_zero, List.set_cons_succ]
              refine held_take 5 56 (.pointer (some ⟨w.heap.size + 1, 0, none⟩)) rfl rfl (by kernel_rfl) (by kernel_rfl) (by kernel_rfl) (fun _ _ _ h => h) (by rfl) (by intro w' hSw; (try dsimp only at hSw); go_simp; (try (with_reducible rfl))) (by assumption) ?_
              simp only [Act.put, List.setIfInBounds_toArray, List.set_cons_zero, List.set_cons_succ]
              refine held_take 6 57 (.int .u16 m0) rfl rfl (by kernel_rfl) (by kernel_rfl) (by kernel_rfl) (fun _ _ _ h => h) (by rfl) (by intro w' hSw; (try dsimp only at hSw); go_simp; (try (with_reducible rfl))) (by assumption) ?_
              simp only [Act.put, List.setIfInBounds_toArray, List.set_cons_zero, List.set_cons_succ]
              refine held_take 7 58 (.int .i64 m0) rfl rfl (by kernel_rfl) (by kernel_rfl) (by kernel_rfl) (fun _ _ _ h => h) (by rfl) (by intro w' hSw; (try dsimp only at hSw); go_simp; (try (with_reducible rfl))) (by assumption) ?_
              simp only [Act.put, List.setIfInBounds_toArray, List.set_cons_zero, List.set_cons_succ]
              refine held_take 8 59 (.int .i64 (room.a + m0)) rfl rfl (by kernel_rfl) (by kernel_rfl) (by kernel_rfl) (fun _ _ _ h => h) (by rfl) (by intro w' hSw; (try dsimp only at hSw); go_simp; (try (with_reducible rfl))) (by assumption) ?_
              simp only [Act.put, List.setIfInBounds_toArray, List.set_cons_zero, List.set_cons_succ]
              refine held_take 9 60 (.pointer (some ⟨V1.heap.size, 0, none⟩)) rfl rfl (by kernel_rfl) (by kernel_rfl) (by kernel_rfl) (fun _ _ _ h => h) (by rfl) (by intro w' hSw; (try dsimp only at hSw); go_simp; (try (with_reducible rfl))) (by assumption) ?_
              simp only [Act.put, List.setIfInBounds_toArray, List.set_cons_zero, List.set_cons_succ]
              refine held_op 10 rfl (by kernel_rfl) (by rfl) (fun K hK => ?_)
              go_simp
              have HQe := Lib.hid (HQd.out.setFar (p := ⟨V1.heap.size, 0, none⟩) (by have := HLT.out; exact this) (.int .i64 (room.a + m0)))
              refine hK (.bool true) _ (⟨HQe.out.rm.cell 0, HQe.out.mo.cell 0⟩) ?_
              have hHeld := (show (wd.setCell ⟨V1.heap.size, 0, none⟩ (.int .i64 (room.a + m0))).cell? ⟨w.heap.size, 0, none⟩ = some (.int .i64 room.a) ∧ (wd.setCell ⟨V1.heap.size, 0, none⟩ (.int .i64 (room.a + m0))).cell? ⟨w.heap.size + 1, 0, none⟩ = some (.int .u16 m0) from ⟨HQe.out.rm.cell 0, HQe.out.mo.cell 0⟩)
              have HNB := Lib.hid (HBd.out.set_ 0 (.int .i64 (room.a + m0)))
              have HNL := Lib.hid (HLd.out.setCell (p := ⟨V1.heap.size, 0, none⟩) (Nat.le_refl _) (.int .i64 (room.a + m0)))
              clear hK K c2 c3
              simp only [Act.put]
              refine wpAnyH_done (by kernel_rfl) ?_ _
              clear hHeld
              go_wp2_with fail
              go_roundw
              case rel => exact ⟨1, room.a + m0, e1, e2, by omega, by rfl, by omega, by omega, by omega, HNB.out, HNL.out⟩
              case measure => simp [intOf]
            · have dlo : decide (room.a < 1000000000) = false := decide_eq_false hlo
              go_wp2_with fail
              go_roundw
              case rel => exact ⟨1, e0, e1, e2, by omega, by rfl, h0, h1, h2, HBW.out, HBL.out⟩
              case measure => simp [intOf]
          · have c0 : wr.cell? ⟨w.heap.size, 1, none⟩ = some (.int .i64 room.b) := HQ.out.rm.cell 1
            by_cases hlo : room.b < 1000000000
            · have dlo : decide (room.b < 1000000000) = true := decide_eq_true hlo
              have hws : IntKind.i64.wrap (room.b + m1) = room.b + m1 := by rw [IntKind.wrap_i64]; omega
              have hwm : IntKind.i64.wrap m1 = m1 := by rw [IntKind.wrap_i64]; omega
              go_wp2_with fail
              have HQd := Lib.hid HQ.out.drew
              have HBd := Lib.hid HBW.out.drew
              have HLd := Lib.hid HBL.out.drew
              refine wp_region_held_drew (S := (fun w' => w'.cell? ⟨w.heap.size, 1, none⟩ = some (.int .i64 room.b) ∧ w'.cell? ⟨w.heap.size + 1, 1, none⟩ = some (.int .u16 m1))) (by kernel_rfl) (⟨HQd.out.rm.cell 1, HQd.out.mo.cell 1⟩) (fun hHeld => ?_)
              generalize hwd : World.drew _ = wd at HQd HBd HLd hHeld ⊢
              clear hwd
              have c2 : wd.cell? ⟨V1.heap.size, 1, none⟩ = some (.int .i64 e1) := HBd.out.cell 1
              have c3 := HBd.out.frozen 1
              refine held_take 0 51 (.int .i64 1) rfl rfl (by kernel_rfl) (by kernel_rfl) (by kernel_rfl) (fun _ _ _ h => h) (by rfl) (by intro w' hSw; (try dsimp only at hSw); go_simp; (try (with_reducible rfl))) (by assumption) ?_
              simp only [Act.put, List.setIfInBounds_toArray, List.set_cons_zero, List.set_cons_succ]
              refine held_take 1 52 (.int .i64 1) rfl rfl (by kernel_rfl) (by kernel_rfl) (by kernel_rfl) (fun _ _ _ h => h) (by rfl) (by intro w' hSw; (try dsimp only at hSw); go_simp; (try (with_reducible rfl))) (by assumption) ?_
              simp only [Act.put, List.setIfInBounds_toArray, List.set_cons_zero, List.set_cons_succ]
              refine held_take 2 53 (.pointer (some ⟨w.heap.size, 1, none⟩)) rfl rfl (by kernel_rfl) (by kernel_rfl) (by kernel_rfl) (fun _ _ _ h => h) (by rfl) (by intro w' hSw; (try dsimp only at hSw); go_simp; (try (with_reducible rfl))) (by assumption) ?_
              simp only [Act.put, List.setIfInBounds_toArray, List.set_cons_zero, List.set_cons_succ]
              refine held_take 3 54 (.int .i64 room.b) rfl rfl (by kernel_rfl) (by kernel_rfl) (by kernel_rfl) (fun _ _ _ h => h) (by rfl) (by intro w' hSw; (try dsimp only at hSw); go_simp; (try (with_reducible rfl))) (by assumption) ?_
              simp only [Act.put, List.setIfInBounds_toArray, List.set_cons_zero, List.set_cons_succ]
              refine held_take 4 55 (.int .i64 1) rfl rfl (by kernel_rfl) (by kernel_rfl) (by kernel_rfl) (fun _ _ _ h => h) (by rfl) (by intro w' hSw; (try dsimp only at hSw); go_simp; (try (with_reducible rfl))) (by assumption) ?_
              simp only [Act.put, List.setIfInBounds_toArray, List.set_cons_zero, List.set_cons_succ]
              refine held_take 5 56 (.pointer (some ⟨w.heap.size + 1, 1, none⟩)) rfl rfl (by kernel_rfl) (by kernel_rfl) (by kernel_rfl) (fun _ _ _ h => h) (by rfl) (by intro w' hSw; (try dsimp only at hSw); go_simp; (try (with_reducible rfl))) (by assumption) ?_
              simp only [Act.put, List.setIfInBounds_toArray, List.set_cons_zero, List.set_cons_succ]
              refine held_take 6 57 (.int .u16 m1) rfl rfl (by kernel_rfl) (by kernel_rfl) (by kernel_rfl) (fun _ _ _ h => h) (by rfl) (by intro w' hSw; (try dsimp only at hSw); go_simp; (try (with_reducible rfl))) (by assumption) ?_
              simp only [Act.put, List.setIfInBounds_toArray, List.set_cons_zero, List.set_cons_succ]
              refine held_take 7 58 (.int .i64 m1) rfl rfl (by kernel_rfl) (by kernel_rfl) (by kernel_rfl) (fun _ _ _ h => h) (by rfl) (by intro w' hSw; (try dsimp only at hSw); go_simp; (try (with_reducible rfl))) (by assumption) ?_
              simp only [Act.put, List.setIfInBounds_toArray, List.set_cons_zero, List.set_cons_succ]
              refine held_take 8 59 (.int .i64 (room.b + m1)) rfl rfl (by kernel_rfl) (by kernel_rfl) (by kernel_rfl) (fun _ _ _ h => h) (by rfl) (by intro w' hSw; (try dsimp only at hSw); go_simp; (try (with_reducible rfl))) (by assumption) ?_
              simp only [Act.put, List.setIfInBounds_toArray, List.set_cons_zero, List.set_cons_succ]
              refine held_take 9 60 (.pointer (some ⟨V1.heap.size, 1, none⟩)) rfl rfl (by kernel_rfl) (by kernel_rfl) (by kernel_rfl) (fun _ _ _ h => h) (by rfl) (by intro w' hSw; (try dsimp only at hSw); go_simp; (try (with_reducible rfl))) (by assumption) ?_
              simp only [Act.put, List.setIfInBounds_toArray, List.set_cons_zero, List.set_cons_succ]
              refine held_op 10 rfl (by kernel_rfl) (by rfl) (fun K hK => ?_)
              go_simp
              have HQe := Lib.hid (HQd.out.setFar (p := ⟨V1.heap.size, 1, none⟩) (by have := HLT.out; exact this) (.int .i64 (room.b + m1)))
              refine hK (.bool true) _ (⟨HQe.out.rm.cell 1, HQe.out.mo.cell 1⟩) ?_
              have hHeld := (show (wd.setCell ⟨V1.heap.size, 1, none⟩ (.int .i64 (room.b + m1))).cell? ⟨w.heap.size, 1, none⟩ = some (.int .i64 room.b) ∧ (wd.setCell ⟨V1.heap.size, 1, none⟩ (.int .i64 (room.b + m1))).cell? ⟨w.heap.size + 1, 1, none⟩ = some (.int .u16 m1) from ⟨HQe.out.rm.cell 1, HQe.out.mo.cell 1⟩)
              have HNB := Lib.hid (HBd.out.set_ 1 (.int .i64 (room.b + m1)))
              have HNL := Lib.hid (HLd.out.setCell (p := ⟨V1.heap.size, 1, none⟩) (Nat.le_refl _) (.int .i64 (room.b + m1)))
              clear hK K c2 c3
              simp only [Act.put]
              refine wpAnyH_done (by kernel_rfl) ?_ _
              clear hHeld
              go_wp2_with fail
              go_roundw
              case rel => exact ⟨2, e0, room.b + m1, e2, by omega, by rfl, by omega, by omega, by omega, HNB.out, HNL.out⟩
              case measure => simp [intOf]
            · have dlo : decide (room.b < 1000000000) = false := decide_eq_false hlo
              go_wp2_with fail
              go_roundw
              case rel => exact ⟨2, e0, e1, e2, by omega, by rfl, h0, h1, h2, HBW.out, HBL.out⟩
              case measure => simp [intOf]
          · have c0 : wr.cell? ⟨w.heap.size, 2, none⟩ = some (.int .i64 room.c) := HQ.out.rm.cell 2
            by_cases hlo : room.c < 1000000000
            · have dlo : decide (room.c < 1000000000) = true := decide_eq_true hlo
              have hws : IntKind.i64.wrap (room.c + m2) = room.c + m2 := by rw [IntKind.wrap_i64]; omega
              have hwm : IntKind.i64.wrap m2 = m2 := by rw [IntKind.wrap_i64]; omega
              go_wp2_with fail
              have HQd := Lib.hid HQ.out.drew
              have HBd := Lib.hid HBW.out.drew
              have HLd := Lib.hid HBL.out.drew
              refine wp_region_held_drew (S := (fun w' => w'.cell? ⟨w.heap.size, 2, none⟩ = some (.int .i64 room.c) ∧ w'.cell? ⟨w.heap.size + 1, 2, none⟩ = some (.int .u16 m2))) (by kernel_rfl) (⟨HQd.out.rm.cell 2, HQd.out.mo.cell 2⟩) (fun hHeld => ?_)
              generalize hwd : World.drew _ = wd at HQd HBd HLd hHeld ⊢
              clear hwd
              have c2 : wd.cell? ⟨V1.heap.size, 2, none⟩ = some (.int .i64 e2) := HBd.out.cell 2
              have c3 := HBd.out.frozen 2
              refine held_take 0 51 (.int .i64 2) rfl rfl (by kernel_rfl) (by kernel_rfl) (by kernel_rfl) (fun _ _ _ h => h) (by rfl) (by intro w' hSw; (try dsimp only at hSw); go_simp; (try (with_reducible rfl))) (by assumption) ?_
              simp only [Act.put, List.setIfInBounds_toArray, List.set_cons_zero, List.set_cons_succ]
              refine held_take 1 52 (.int .i64 2) rfl rfl (by kernel_rfl) (by kernel_rfl) (by kernel_rfl) (fun _ _ _ h => h) (by rfl) (by intro w' hSw; (try dsimp only at hSw); go_simp; (try (with_reducible rfl))) (by assumption) ?_
              simp only [Act.put, List.setIfInBounds_toArray, List.set_cons_zero, List.set_cons_succ]
              refine held_take 2 53 (.pointer (some ⟨w.heap.size, 2, none⟩)) rfl rfl (by kernel_rfl) (by kernel_rfl) (by kernel_rfl) (fun _ _ _ h => h) (by rfl) (by intro w' hSw; (try dsimp only at hSw); go_simp; (try (with_reducible rfl))) (by assumption) ?_
              simp only [Act.put, List.setIfInBounds_toArray, List.set_cons_zero, List.set_cons_succ]
              refine held_take 3 54 (.int .i64 room.c) rfl rfl (by kernel_rfl) (by kernel_rfl) (by kernel_rfl) (fun _ _ _ h => h) (by rfl) (by intro w' hSw; (try dsimp only at hSw); go_simp; (try (with_reducible rfl))) (by assumption) ?_
              simp only [Act.put, List.setIfInBounds_toArray, List.set_cons_zero, List.set_cons_succ]
              refine held_take 4 55 (.int .i64 2) rfl rfl (by kernel_rfl) (by kernel_rfl) (by kernel_rfl) (fun _ _ _ h => h) (by rfl) (by intro w' hSw; (try dsimp only at hSw); go_simp; (try (with_reducible rfl))) (by assumption) ?_
              simp only [Act.put, List.setIfInBounds_toArray, List.set_cons_zero, List.set_cons_succ]
              refine held_take 5 56 (.pointer (some ⟨w.heap.size + 1, 2, none⟩)) rfl rfl (by kernel_rfl) (by kernel_rfl) (by kernel_rfl) (fun _ _ _ h => h) (by rfl) (by intro w' hSw; (try dsimp only at hSw); go_simp; (try (with_reducible rfl))) (by assumption) ?_
              simp only [Act.put, List.setIfInBounds_toArray, List.set_cons_zero, List.set_cons_succ]
              refine held_take 6 57 (.int .u16 m2) rfl rfl (by kernel_rfl) (by kernel_rfl) (by kernel_rfl) (fun _ _ _ h => h) (by rfl) (by intro w' hSw; (try dsimp only at hSw); go_simp; (try (with_reducible rfl))) (by assumption) ?_
              simp only [Act.put, List.setIfInBounds_toArray, List.set_cons_zero, List.set_cons_succ]
              refine held_take 7 58 (.int .i64 m2) rfl rfl (by kernel_rfl) (by kernel_rfl) (by kernel_rfl) (fun _ _ _ h => h) (by rfl) (by intro w' hSw; (try dsimp only at hSw); go_simp; (try (with_reducible rfl))) (by assumption) ?_
              simp only [Act.put, List.setIfInBounds_toArray, List.set_cons_zero, List.set_cons_succ]
              refine held_take 8 59 (.int .i64 (room.c + m2)) rfl rfl (by kernel_rfl) (by kernel_rfl) (by kernel_rfl) (fun _ _ _ h => h) (by rfl) (by intro w' hSw; (try dsimp only at hSw); go_simp; (try (with_reducible rfl))) (by assumption) ?_
              simp only [Act.put, List.setIfInBounds_toArray, List.set_cons_zero, List.set_cons_succ]
              refine held_take 9 60 (.pointer (some ⟨V1.heap.size, 2, none⟩)) rfl rfl (by kernel_rfl) (by kernel_rfl) (by kernel_rfl) (fun _ _ _ h => h) (by rfl) (by intro w' hSw; (try dsimp only at hSw); go_simp; (try (with_reducible rfl))) (by assumption) ?_
              simp only [Act.put, List.setIfInBounds_toArray, List.set_cons_zero, List.set_cons_succ]
              refine held_op 10 rfl (by kernel_rfl) (by rfl) (fun K hK => ?_)
              go_simp
              have HQe := Lib.hid (HQd.out.setFar (p := ⟨V1.heap.size, 2, none⟩) (by have := HLT.out; exact this) (.int .i64 (room.c + m2)))
              refine hK (.bool true) _ (⟨HQe.out.rm.cell 2, HQe.out.mo.cell 2⟩) ?_
              have hHeld := (show (wd.setCell ⟨V1.heap.size, 2, none⟩ (.int .i64 (room.c + m2))).cell? ⟨w.heap.size, 2, none⟩ = some (.int .i64 room.c) ∧ (wd.setCell ⟨V1.heap.size, 2, none⟩ (.int .i64 (room.c + m2))).cell? ⟨w.heap.size + 1, 2, none⟩ = some (.int .u16 m2) from ⟨HQe.out.rm.cell 2, HQe.out.mo.cell 2⟩)
              have HNB := Lib.hid (HBd.out.set_ 2 (.int .i64 (room.c + m2)))
              have HNL := Lib.hid (HLd.out.setCell (p := ⟨V1.heap.size, 2, none⟩) (Nat.le_refl _) (.int .i64 (room.c + m2)))
              clear hK K c2 c3
              simp only [Act.put]
              refine wpAnyH_done (by kernel_rfl) ?_ _
              clear hHeld
              go_wp2_with fail
              go_roundw
              case rel => exact ⟨3, e0, e1, room.c + m2, by omega, by rfl, by omega, by omega, by omega, HNB.out, HNL.out⟩
              case measure => simp [intOf]
            · have dlo : decide (room.c < 1000000000) = false := decide_eq_false hlo
              go_wp2_with fail
              go_roundw
              case rel => exact ⟨3, e0, e1, e2, by omega, by rfl, h0, h1, h2, HBW.out, HBL.out⟩
              case measure => simp [intOf]
          · have HRP := Lib.hid (HO1.out.toRds.below HBL.out)
            have HRi := Lib.hid (HRL1.out.below HBL.out)
            have HLE := Lib.hid (show room.le ⟨e0, e1, e2⟩ from ⟨h0, h1, h2⟩)
            have HWP := Lib.hid (show ∀ x ∈ P, x.Wf from fun x hx => HW.out x (HSUB.out.subset hx))
            have HNIL := Lib.hid (fitsB_nil hra0 hrb0 hrc0)
            have crm := HQ.out.rm.cell
            obtain ⟨fv, hfv⟩ : ∃ v, fitsB room l = v := ⟨_, rfl⟩
            have HFV := Lib.hid hfv
            clear hfv h0 h1 h2
            go_wp2_with fail
            refine (fitsN (room := room) (l := []) (v := true) rfl HNIL.out (Rds.nil _ encP none) (by simp) (by simp)).mono ?_; rintro e w4 ⟨rfl, hb⟩
            have HQ := Lib.hid (HQ.out.below hb)
            have HRi := Lib.hid (HRi.out.below hb)
            have HRP := Lib.hid (HRP.out.below hb)
            have HBW := Lib.hid (HBW.out.belowAll hb)
            clear hb crm
            have crm := HQ.out.rm.cell
            go_wp2_with fail
            refine (fitsV HFV.out HRi.out HW.out (by omega)).mono ?_; rintro e w5 ⟨rfl, hb⟩
            have HQ := Lib.hid (HQ.out.below hb)
            have HRi := Lib.hid (HRi.out.below hb)
            have HRP := Lib.hid (HRP.out.below hb)
            have HBW := Lib.hid (HBW.out.belowAll hb)
            clear hb crm
            cases fv
            · go_wp2_with fail
              go_ret
              exact ⟨rfl, HQ.out.bel⟩
            · have crm := HQ.out.rm.cell
              go_wp2_with fail
              refine (fitsV (fitsB_sub HSUB.out HFV.out) HRP.out HWP.out (by omega)).mono ?_; rintro e w6 ⟨rfl, hb⟩
              have HQ := Lib.hid (HQ.out.below hb)
              have HRi := Lib.hid (HRi.out.below hb)
              have HBW := Lib.hid (HBW.out.belowAll hb)
              clear hb crm
              have cwd := HBW.out.cell
              go_wp2_with fail
              refine (fitsV (room := ⟨e0, e1, e2⟩) (fitsB_room HLE.out HFV.out) HRi.out HW.out (by omega)).mono ?_; rintro e w7 ⟨rfl, hb⟩
              have HQ := Lib.hid (HQ.out.below hb)
              clear hb cwd
              go_wp2_with fail
              go_ret
              exact ⟨rfl, HQ.out.bel⟩
end Go.Proofs.Ytabbkembpghfdaa
