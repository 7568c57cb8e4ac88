/- bilgelaw21.VictimKeeps: what is handed in stays; what is answered is new memory. -/
import Derived.Test.YtabbkembpghfdaaLawVictimChooses
import Derived.Test.YtabbkembpghfdaaEqV
import Derived.Test.YtabbkembpghfdaaOwnSet
namespace Go.Proofs.Ytabbkembpghfdaa
open Go.RowKit

set_option maxRecDepth 100000 in
set_option maxHeartbeats 16000000 in
theorem victimKeeps_any (room : S3) (l : List Pd) (p : Pd) (Al : Option Addr) (cl : Nat) (w : World) (hr : Rds w encP Al l) (hw : ∀ x ∈ l, x.Wf) (hm : l.length ≤ 9223372036854775807) (hp : p.Wf) :
    Calls Try.prog 11 #[.agg #[.int .i64 room.a, .int .i64 room.b, .int .i64 room.c], .slice Al l.length cl, .agg p.cells] w fun e w' => e = .returned (.bool true) ∧ Below w.heap.size w w' := by
  have mixed : Try.prog.follows Departure.mixedOrders = true := by kernel_rfl
  have HQ := Lib.hid (CQ.new room p w)
  have HR := Lib.hid hr
  have HW := Lib.hid hw
  have HPW := Lib.hid hp
  clear hr hw hp
  go_enter Try.func11, Try.ntmps11
  go_wp2_with fail
  refine (awake21_any _).mono ?_; rintro e w1 ⟨rfl, hb⟩
  have HQ := Lib.hid (HQ.out.below hb)
  clear hb
  have crm := HQ.out.rm.cell
  have cp := HQ.out.pb.cell
  by_cases hf : FitV room l p
  rotate_left
  · go_wp2_with fail
    refine (refFitV_any (v := false) (room := room) (p := p) (by simp [hf]) Al cl _ (HR.out.below HQ.out.bel) HW.out HPW.out hm).mono ?_; rintro e w2 ⟨rfl, hb⟩
    have HQ := Lib.hid (HQ.out.below hb)
    clear hb crm cp hf
    go_wp2_with fail
    refine (awake21_any _).mono ?_; rintro e w3 ⟨rfl, hb⟩
    have HQ := Lib.hid (HQ.out.below hb)
    clear hb
    go_wp2_with fail
    go_ret
    exact ⟨rfl, HQ.out.bel⟩
  · have HF := Lib.hid hf
    go_wp2_with fail
    refine (refFitV_any (v := true) (room := room) (p := p) (by simp [hf]) Al cl _ (HR.out.below HQ.out.bel) HW.out HPW.out hm).mono ?_; rintro e w1 ⟨rfl, hb⟩
    have HQ := Lib.hid (HQ.out.below hb)
    have HRL := Lib.hid (HR.out.below HQ.out.bel)
    have hl := hf.len
    clear hb crm cp hf
    have HFI := Lib.hid HF.out.inj
    go_wp2_with (at_builtin; refine wl_copy elemP encP rfl (.tmp 26) (.tmp 27) rfl rfl Al l cl rfl HRL.out (by omega) (by omega) ?_; intro A7 c7 w2 ho hb; have HK := Lib.hid (And.intro ho hb); have HQ2 := Lib.hid (HQ.out.below hb); have crm := HQ2.out.rm.cell; have cp := HQ2.out.pb.cell; clear ho hb)
    refine (chooseW (room := room) (p := p) A7 c7 _ HK.out.1.toRds (by omega) HW.out HPW.out).mono ?_; rintro e w3 ⟨O, bb, Ax, cx, rfl, hwho, ho, hb⟩
    have HWH := Lib.hid hwho
    have hOl := hwho.len
    have HX := Lib.hid ho
    have HK3 := Lib.hid (And.intro (HK.out.1.below hb (Nat.le_refl _)) (below_rV HK.out.2 hb))
    have HSZ := Lib.hid HK.out.2.size
    clear hwho ho hb crm cp
    have HQ3 := Lib.hid (HQ.out.below HK3.out.2)
    have crm := HQ3.out.rm.cell
    go_wp2_with fail
    refine (fitsV (room := room) (l := l) rfl HK3.out.1.toRds HW.out (by omega)).mono ?_; rintro e w4 ⟨rfl, hb⟩
    have HX := Lib.hid (HX.out.below hb (Nat.le_refl _))
    have HK := Lib.hid (And.intro (HK3.out.1.below hb (Nat.le_refl _)) (below_rV HK3.out.2 hb))
    clear hb crm HK3 HQ3 HQ2
    go_wp2_with fail
    go_loopw [10] (fun ii wr => ∃ (i : Nat), i ≤ l.length ∧ ii = .int .i64 i ∧ Below w4.heap.size w4 wr) (fun ii _ => l.length - (intOf ii).toNat)
    case atStart => exact ⟨0, by omega, rfl, Below.refl _ _⟩
    case round =>
      obtain ⟨i, hi, rfl, hbl⟩ := hrel
      have HBL := Lib.hid hbl
      have HRo := Lib.hid (HK.out.1.toRds.below hbl)
      have HRi := Lib.hid ((HRL.out.below HK.out.2).below hbl)
      clear hbl
      by_cases hlt : i < l.length
      · have dk : decide ((i : Int) < (l.length : Int)) = true := decide_eq_true (by omega)
        have dk2 : (i : Int) < (l.length : Int) := by omega
        obtain ⟨b, off, hA⟩ := HR.out.some_ hlt
        obtain rfl : Al = some ⟨b, off, none⟩ := hA
        obtain ⟨bo, oo, hA⟩ := HRo.out.some_ hlt
        obtain rfl : A7 = some ⟨bo, oo, none⟩ := hA
        have HXI := Lib.hid (List.getElem?_eq_getElem hlt)
        generalize l[i] = x at *
        go_wp2_with fail
        have HBL := Lib.hid HBL.out.drew
        have HRo := Lib.hid HRo.out.drew
        have HRi := Lib.hid HRi.out.drew
        obtain ⟨x0, x1, x2, x3, x4, x5, x6, x7, x8, x9, x10⟩ := HRo.out.pdAt (Below.refl _ _) HXI.out
        obtain ⟨y0, y1, y2, y3, y4, y5, y6, y7, y8, y9, y10⟩ := HRi.out.pdAt (Below.refl _ _) HXI.out
        refine wp_region_held_drew (S := (fun w' => w'.cell? ⟨bo, oo + i * 11, none⟩ = some (.string x.id) ∧ w'.cell? ⟨bo, oo + i * 11 + 1, none⟩ = some (.int .i64 x.prio) ∧ w'.cell? ⟨bo, oo + i * 11 + 2, none⟩ = some (.bool x.crit) ∧ w'.cell? ⟨bo, oo + i * 11 + 3, none⟩ = some (.int .i64 x.q0) ∧ w'.cell? ⟨bo, oo + i * 11 + 4, none⟩ = some (.int .i64 x.q1) ∧ w'.cell? ⟨bo, oo + i * 11 + 5, none⟩ = some (.int .i64 x.q2) ∧ w'.cell? ⟨bo, oo + i * 11 + 6, none⟩ = some (.int .i64 x.l0) ∧ w'.cell? ⟨bo, oo + i * 11 + 7, none⟩ = some (.int .i64 x.l1) ∧ w'.cell? ⟨bo, oo + i * 11 + 8, none⟩ = some (.int .i64 x.l2) ∧ w'.cell? ⟨bo, oo + i * 11 + 9, none⟩ = some (.string x.image) ∧ w'.cell? ⟨bo, oo + i * 11 + 10, none⟩ = some (.int .i64 x.size) ∧ w'.cell? ⟨b, off + i * 11, none⟩ = some (.string x.id) ∧ w'.cell? ⟨b, off + i * 11 + 1, none⟩ = some (.int .i64 x.prio) ∧ w'.cell? ⟨b, off + i * 11 + 2, none⟩ = some (.bool x.crit) ∧ w'.cell? ⟨b, off + i * 11 + 3, none⟩ = some (.int .i64 x.q0) ∧ w'.cell? ⟨b, off + i * 11 + 4, none⟩ = some (.int .i64 x.q1) ∧ w'.cell? ⟨b, off + i * 11 + 5, none⟩ = some (.int .i64 x.q2) ∧ w'.cell? ⟨b, off + i * 11 + 6, none⟩ = some (.int .i64 x.l0) ∧ w'.cell? ⟨b, off + i * 11 + 7, none⟩ = some (.int .i64 x.l1) ∧ w'.cell? ⟨b, off + i * 11 + 8, none⟩ = some (.int .i64 x.l2) ∧ w'.cell? ⟨b, off + i * 11 + 9, none⟩ = some (.string x.image) ∧ w'.cell? ⟨b, off + i * 11 + 10, none⟩ = some (.int .i64 x.size))) (by kernel_rfl) (⟨x0, x1, x2, x3, x4, x5, x6, x7, x8, x9, x10, y0, y1, y2, y3, y4, y5, y6, y7, y8, y9, y10⟩) (fun hHeld => ?_)
        clear x0 x1 x2 x3 x4 x5 x6 x7 x8 x9 x10 y0 y1 y2 y3 y4 y5 y6 y7 y8 y9 y10
        refine held_take 0 45 (.slice (some ⟨bo, oo, none⟩) l.length c7) rfl rfl (by kernel_rfl) (by kernel_rfl) (by kernel_rfl) (fun _ _ _ h => h) (by rfl) (by intro w' hSw; (try dsimp only at hSw); go_simp; (try (with_reducible rfl))) (by assumption) ?_
        simp only [Act.put, List.setIfInBounds_toArray, List.set_cons_zero, List.set_cons_succ]
        refine held_take 1 46 (.int .i64 i) rfl rfl (by kernel_rfl) (by kernel_rfl) (by kernel_rfl) (fun _ _ _ h => h) (by rfl) (by intro w' hSw; (try dsimp only at hSw); go_simp; (try (with_reducible rfl))) (by assumption) ?_
        simp only [Act.put, List.setIfInBounds_toArray, List.set_cons_zero, List.set_cons_succ]
        refine held_take 2 47 (.pointer (some ⟨bo, oo + i * 11, none⟩)) rfl rfl (by kernel_rfl) (by kernel_rfl) (by kernel_rfl) (fun _ _ _ h => h) (by rfl) (by intro w' hSw; (try dsimp only at hSw); go_simp; (try (with_reducible rfl))) (by assumption) ?_
        simp only [Act.put, List.setIfInBounds_toArray, List.set_cons_zero, List.set_cons_succ]
        refine held_take 3 48 (.agg #[.string x.id, .int .i64 x.prio, .bool x.crit, .int .i64 x.q0, .int .i64 x.q1, .int .i64 x.q2, .int .i64 x.l0, .int .i64 x.l1, .int .i64 x.l2, .string x.image, .int .i64 x.size]) rfl rfl (by kernel_rfl) (by kernel_rfl) (by kernel_rfl) (fun _ _ _ h => h) (by rfl) (by intro w' hSw; (try dsimp only at hSw); go_simp; (try (with_reducible rfl))) (by assumption) ?_
        simp only [Act.put, List.setIfInBounds_toArray, List.set_cons_zero, List.set_cons_succ]
        refine held_take 4 49 (.slice (some ⟨b, off, none⟩) l.length cl) rfl rfl (by kernel_rfl) (by kernel_rfl) (by kernel_rfl) (fun _ _ _ h => h) (by rfl) (by intro w' hSw; (try dsimp only at hSw); go_simp; (try (with_reducible rfl))) (by assumption) ?_
        simp only [Act.put, List.setIfInBounds_toArray, List.set_cons_zero, List.set_cons_succ]
        refine held_take 5 50 (.int .i64 i) rfl rfl (by kernel_rfl) (by kernel_rfl) (by kernel_rfl) (fun _ _ _ h => h) (by rfl) (by intro w' hSw; (try dsimp only at hSw); go_simp; (try (with_reducible rfl))) (by assumption) ?_
        simp only [Act.put, List.setIfInBounds_toArray, List.set_cons_zero, List.set_cons_succ]
        refine held_take 6 51 (.pointer (some ⟨b, off + i * 11, none⟩)) rfl rfl (by kernel_rfl) (by kernel_rfl) (by kernel_rfl) (fun _ _ _ h => h) (by rfl) (by intro w' hSw; (try dsimp only at hSw); go_simp; (try (with_reducible rfl))) (by assumption) ?_
        simp only [Act.put, List.setIfInBounds_toArray, List.set_cons_zero, List.set_cons_succ]
        refine held_take 7 52 (.agg #[.string x.id, .int .i64 x.prio, .bool x.crit, .int .i64 x.q0, .int .i64 x.q1, .int .i64 x.q2, .int .i64 x.l0, .int .i64 x.l1, .int .i64 x.l2, .string x.image, .int .i64 x.size]) rfl rfl (by kernel_rfl) (by kernel_rfl) (by kernel_rfl) (fun _ _ _ h => h) (by rfl) (by intro w' hSw; (try dsimp only at hSw); go_simp; (try (with_reducible rfl))) (by assumption) ?_
        simp only [Act.put, List.setIfInBounds_toArray, List.set_cons_zero, List.set_cons_succ]
        refine held_take 8 53 (.bool false) rfl rfl (by kernel_rfl) (by kernel_rfl) (by kernel_rfl) (fun _ _ _ h => h) (by rfl) (by intro w' hSw; (try dsimp only at hSw); go_simp; (first | done | with_reducible rfl | (simp [eq3]; done))) (by assumption) ?_
        simp only [Act.put, List.setIfInBounds_toArray, List.set_cons_zero, List.set_cons_succ]
        refine wpAnyH_done (by kernel_rfl) ?_ _
        clear hHeld
        go_wp2_with fail
        go_roundw
        case rel => exact ⟨i + 1, by omega, by go_num, HBL.out⟩
        case measure => simp [intOf]; omega
      · obtain rfl : i = l.length := by omega
        have dk : decide ((l.length : Int) < (l.length : Int)) = false := by simp
        have HX := Lib.hid (HX.out.below HBL.out (Nat.le_refl _))
        have HK := Lib.hid (And.intro (HK.out.1.below HBL.out (Nat.le_refl _)) (below_rV HK.out.2 HBL.out))
        clear HBL HRo HRi
        go_wp2_with fail
        go_loopw [11] (fun ii wx => ∃ (k : Nat) (X : List ByteArray), k ≤ O.length ∧ ii = .int .i64 k ∧ X.length = O.length ∧ Own wx w2.heap.size 9 encS (.slice Ax O.length cx) X ∧ Own wx w1.heap.size 25 encP (.slice A7 l.length c7) l ∧ Below w1.heap.size w1 wx) (fun ii _ => O.length - (intOf ii).toNat)
        case atStart => exact ⟨0, O, by omega, rfl, rfl, HX.out, HK.out.1, HK.out.2⟩
        case round =>
          clear HX HK
          obtain ⟨k, X, hk, rfl, hXl, hx, hown, hbl⟩ := hrel
          have HX := Lib.hid hx
          have HK := Lib.hid (And.intro hown hbl)
          have HXL := Lib.hid hXl
          clear hx hown hbl hXl
          by_cases hlt : k < O.length
          · have dk5 : decide ((k : Int) < (O.length : Int)) = true := decide_eq_true (by omega)
            have dk6 : (k : Int) < (O.length : Int) := by omega
            have hok : k < X.length := by rw [HXL.out]; exact hlt
            have hne : X ≠ [] := by intro e; rw [e] at hok; simp at hok
            have ha0 := HX.out
            rw [← HXL.out] at ha0
            obtain ⟨g, hA3, hge⟩ := own_some ha0 hne
            obtain rfl : Ax = some ⟨g, 0, none⟩ := hA3
            have z0 := own_cells ha0 hok 0 (.string X[k]) rfl
            rw [Nat.add_zero, Nat.mul_one] at z0
            have z1 := own_frozen ha0 rfl hne k
            have HN := Lib.hid (own_set1 ha0 hok ⟨#[63]⟩ (.string ⟨#[63]⟩) rfl)
            have HKN := Lib.hid (HK.out.1.setOther HN.out.2 ha0 rfl hne (by decide))
            have HBN := Lib.hid (HK.out.2.setCell (p := ⟨g, k, none⟩) (by have := HSZ.out; show w1.heap.size ≤ g; omega) (.string ⟨#[63]⟩))
            have HXN := Lib.hid (show (X.set k ⟨#[63]⟩).length = O.length from by rw [List.length_set]; exact HXL.out)
            clear ha0 hge hne
            generalize X[k] = xk at *
            go_wp2_with fail
            go_roundw
            case rel => exact ⟨k + 1, X.set k ⟨#[63]⟩, by omega, by go_num, HXN.out, by have := HN.out.1; rw [HXL.out] at this; exact this, HKN.out, HBN.out⟩
            case measure => simp [intOf]; omega
          · obtain rfl : k = O.length := by omega
            have dk5 : decide ((O.length : Int) < (O.length : Int)) = false := by simp
            have HQ := Lib.hid (HQ.out.below HK.out.2)
            have HRi := Lib.hid (HRL.out.below HK.out.2)
            have HRo := Lib.hid HK.out.1.toRds
            clear HX HXL
            have crm := HQ.out.rm.cell
            have cp := HQ.out.pb.cell
            go_wp2_with fail
            refine (chooseW2 HFI.out (List.Perm.refl l) HWH.out A7 c7 _ HRo.out (by omega) HW.out HPW.out).mono ?_; rintro e w6 ⟨Ay, cy, rfl, ho, hb⟩
            have HQ := Lib.hid (HQ.out.below hb)
            have HRi := Lib.hid (HRi.out.below hb)
            have HRY := Lib.hid ho.toRds
            clear ho hb crm cp
            have crm := HQ.out.rm.cell
            have cp := HQ.out.pb.cell
            go_wp2_with fail
            refine (refChoose_any HF.out HWH.out Al cl _ HRi.out HW.out HPW.out).mono ?_; rintro e w7 ⟨Az, cz, rfl, hrz, hb⟩
            have HQ := Lib.hid (HQ.out.below hb)
            have HRY := Lib.hid (HRY.out.below hb)
            have HRZ := Lib.hid hrz
            clear hrz hb crm cp
            go_wp2_with fail
            refine (sameV O Ay Az cy cz _ HRY.out HRZ.out (by omega)).mono ?_; rintro e w8 ⟨rfl, hb⟩
            have HQ := Lib.hid (HQ.out.below hb)
            clear hb
            go_wp2_with fail
            go_ret
            exact ⟨rfl, HQ.out.bel⟩
end Go.Proofs.Ytabbkembpghfdaa
