/- bilgelaw21.VictimMinimal: all that go may go, each is one of the list, none twice, in order; those that stay fit beside the pod; with any one of those that go they wouldn't. -/
import Derived.Test.YtabbkembpghfdaaVRefChoose
import Derived.Test.YtabbkembpghfdaaVMinPlain
namespace Go.Proofs.Ytabbkembpghfdaa
open Go.RowKit

structure MinS (room : S3) (p : Pd) (l : List Pd) (O : List ByteArray) (ST : List Pd) : Prop where
  c : ∀ i (h : i + 1 < O.length), blt (O[i]'(by omega)) O[i + 1] = true
  d : ∀ i (_ : i < O.length), ∃ k, ∃ hk : k < l.length, l[k].id = O[i]
  e : ∀ k (hk : k < l.length), l[k].id ∈ O → p.crit = true ∧ l[k].crit = false ∧ l[k].prio < p.prio ∧ fitsB room (ST ++ [l[k]]) = false
theorem fitsN {room : S3} {l : List Pd} {n : Nat} (hn : n = l.length) {v : Bool} (hv : fitsB room l = v) {A : Option Addr} {c : Nat} {w : World} (hr : Rds w encP A l) (hwf : ∀ p ∈ l, p.Wf) (hm : l.length ≤ 200000) :
    Calls Try.prog 18 #[.agg #[.int .i64 room.a, .int .i64 room.b, .int .i64 room.c], .slice A n c] w fun e w' => e = .returned (.bool v) ∧ Below w.heap.size w w' := by subst hn; exact fitsV hv hr hwf hm
set_option maxRecDepth 100000 in
set_option maxHeartbeats 16000000 in
theorem victimMinimal_any (room : S3) (l : List Pd) (p : Pd) (Al : Option Addr) (cl : Nat) (w : World) (hr : Rds w encP Al l) (hw : ∀ x ∈ l, x.Wf) (hm : l.length ≤ 9223372036854775807) (hp : p.Wf) :
    Calls Try.prog 5 #[.agg #[.int .i64 room.a, .int .i64 room.b, .int .i64 room.c], .slice Al l.length cl, .agg p.cells] w fun e w' => e = .returned (.bool true) ∧ Below w.heap.size w w' := by
  have mixed : Try.prog.follows Departure.mixedOrders = true := by kernel_rfl
  have HQ := Lib.hid (CQ.new room p w)
  have HR := Lib.hid hr
  have HW := Lib.hid hw
  have HPW := Lib.hid hp
  clear hr hw hp
  go_enter Try.func5, Try.ntmps5
  go_wp2_with fail
  refine (awake21_any _).mono ?_; rintro e w1 ⟨rfl, hb⟩
  have HQ := Lib.hid (HQ.out.below hb)
  clear hb
  have crm := HQ.out.rm.cell
  have cp := HQ.out.pb.cell
  by_cases hf : FitV room l p
  rotate_left
  · go_wp2_with fail
    refine (refFitV_any (v := false) (room := room) (p := p) (by simp [hf]) Al cl _ (HR.out.below HQ.out.bel) HW.out HPW.out hm).mono ?_; rintro e w2 ⟨rfl, hb⟩
    have HQ := Lib.hid (HQ.out.below hb)
    clear hb crm cp hf
    go_wp2_with fail
    refine (awake21_any _).mono ?_; rintro e w3 ⟨rfl, hb⟩
    have HQ := Lib.hid (HQ.out.below hb)
    clear hb
    go_wp2_with fail
    go_ret
    exact ⟨rfl, HQ.out.bel⟩
  · have HF := Lib.hid hf
    go_wp2_with fail
    refine (refFitV_any (v := true) (room := room) (p := p) (by simp [hf]) Al cl _ (HR.out.below HQ.out.bel) HW.out HPW.out hm).mono ?_; rintro e w1 ⟨rfl, hb⟩
    have HQ := Lib.hid (HQ.out.below hb)
    have HRL := Lib.hid (HR.out.below HQ.out.bel)
    have hl := hf.len
    clear hb crm cp hf
    have crm := HQ.out.rm.cell
    have cp := HQ.out.pb.cell
    go_wp2_with fail
    refine (chooseW (room := room) (p := p) Al cl _ HRL.out (by omega) HW.out HPW.out).mono ?_; rintro e w2 ⟨O, bb, Ax, cx, rfl, hwho, ho, hb⟩
    have HWH := Lib.hid hwho
    have hOl := hwho.len
    have HQ := Lib.hid (HQ.out.below hb)
    have HRi := Lib.hid (HRL.out.below hb)
    have HRX := Lib.hid ho.toRds
    clear hwho ho hb crm cp
    cases bb
    · obtain rfl : O = [] := (by obtain ⟨_, _, _, _, _, h⟩ := HWH.out; exact h rfl)
      go_wp2_with fail
      go_ret
      exact ⟨rfl, HQ.out.bel⟩
    · have HMIN := Lib.hid (minD HF.out HWH.out)
      have hll := leftD_len O l
      go_wp2_with fail
      have hBr : Below w2.heap.size w2 w2.drew := (Below.refl _ _).drew
      have HBr := Lib.hid hBr
      clear hBr
      go_cut [9] (fun st W => ∃ A7 c7, st = .slice A7 (leftD O l ++ [p]).length c7 ∧ Own W w2.heap.size 25 encP (.slice A7 (leftD O l ++ [p]).length c7) (leftD O l ++ [p]) ∧ Below w2.heap.size w2 W)
      case first =>
        have HQd := Lib.hid HQ.out.drew
        have HRd := Lib.hid HRi.out.drew
        have HRXd := Lib.hid HRX.out.drew
        refine wp_region_held_drew (S := (fun w' => w'.cell? ⟨w.heap.size + 1, 0, none⟩ = some (.string p.id) ∧ w'.cell? ⟨w.heap.size + 1, 1, none⟩ = some (.int .i64 p.prio) ∧ w'.cell? ⟨w.heap.size + 1, 2, none⟩ = some (.bool p.crit) ∧ w'.cell? ⟨w.heap.size + 1, 3, none⟩ = some (.int .i64 p.q0) ∧ w'.cell? ⟨w.heap.size + 1, 4, none⟩ = some (.int .i64 p.q1) ∧ w'.cell? ⟨w.heap.size + 1, 5, none⟩ = some (.int .i64 p.q2) ∧ w'.cell? ⟨w.heap.size + 1, 6, none⟩ = some (.int .i64 p.l0) ∧ w'.cell? ⟨w.heap.size + 1, 7, none⟩ = some (.int .i64 p.l1) ∧ w'.cell? ⟨w.heap.size + 1, 8, none⟩ = some (.int .i64 p.l2) ∧ w'.cell? ⟨w.heap.size + 1, 9, none⟩ = some (.string p.image) ∧ w'.cell? ⟨w.heap.size + 1, 10, none⟩ = some (.int .i64 p.size))) (by kernel_rfl) (HQd.out.pb.pd) (fun hHeld => ?_)
        generalize w2.drew = wd at *
        have hb0 : Below wd.heap.size wd wd := Below.refl _ _
        have HB := Lib.hid hb0
        clear hb0
        have HQ := HQd
        have HRi := HRd
        have HRX := HRXd
        refine held_take 0 35 (.slice Al l.length cl) rfl rfl (by kernel_rfl) (by kernel_rfl) (by kernel_rfl) (fun _ _ _ h => h) (by rfl) (by intro w' hSw; (try dsimp only at hSw); go_simp; (try (with_reducible rfl))) (by assumption) ?_
        simp only [Act.put, List.setIfInBounds_toArray, List.set_cons_zero, List.set_cons_succ]
        refine held_take 1 36 (.slice Ax O.length cx) rfl rfl (by kernel_rfl) (by kernel_rfl) (by kernel_rfl) (fun _ _ _ h => h) (by rfl) (by intro w' hSw; (try dsimp only at hSw); go_simp; (try (with_reducible rfl))) (by assumption) ?_
        simp only [Act.put, List.setIfInBounds_toArray, List.set_cons_zero, List.set_cons_succ]
        refine held_take 3 38 (.agg #[.string p.id, .int .i64 p.prio, .bool p.crit, .int .i64 p.q0, .int .i64 p.q1, .int .i64 p.q2, .int .i64 p.l0, .int .i64 p.l1, .int .i64 p.l2, .string p.image, .int .i64 p.size]) rfl rfl (by kernel_rfl) (by kernel_rfl) (by kernel_rfl) (fun _ _ _ h => h) (by rfl) (by intro w' hSw; (try dsimp only at hSw); go_simp; (try (with_reducible rfl))) (by assumption) ?_
        simp only [Act.put, List.setIfInBounds_toArray, List.set_cons_zero, List.set_cons_succ]
        refine held_twoD 2 4 37 39 rfl rfl rfl rfl (by kernel_rfl) (by rfl) (by rfl) (fun K hK => ?_) (fun K hK => ?_)
        · go_simp
          go_at_call 22; with_reducible refine (without_any l O Al Ax cl cx _ HRi.out HRX.out (by omega) (by omega)).mono ?_; rintro e w5 ⟨A5, c5, rfl, ho, hb⟩
          have HBS5 := Lib.hid HB.out.size
          have HOW := Lib.hid (ho.mono HBS5.out)
          have HB := Lib.hid (below_rV HB.out hb)
          clear ho hb
          have HQ := Lib.hid (HQd.out.below HB.out)
          have HRi := Lib.hid (HRd.out.below HB.out)
          have HRX := Lib.hid (HRXd.out.below HB.out)
          refine hK _ _ (HQ.out.pb.pd) ?_
          have hHeld := (show w5.cell? ⟨w.heap.size + 1, 0, none⟩ = some (.string p.id) ∧ w5.cell? ⟨w.heap.size + 1, 1, none⟩ = some (.int .i64 p.prio) ∧ w5.cell? ⟨w.heap.size + 1, 2, none⟩ = some (.bool p.crit) ∧ w5.cell? ⟨w.heap.size + 1, 3, none⟩ = some (.int .i64 p.q0) ∧ w5.cell? ⟨w.heap.size + 1, 4, none⟩ = some (.int .i64 p.q1) ∧ w5.cell? ⟨w.heap.size + 1, 5, none⟩ = some (.int .i64 p.q2) ∧ w5.cell? ⟨w.heap.size + 1, 6, none⟩ = some (.int .i64 p.l0) ∧ w5.cell? ⟨w.heap.size + 1, 7, none⟩ = some (.int .i64 p.l1) ∧ w5.cell? ⟨w.heap.size + 1, 8, none⟩ = some (.int .i64 p.l2) ∧ w5.cell? ⟨w.heap.size + 1, 9, none⟩ = some (.string p.image) ∧ w5.cell? ⟨w.heap.size + 1, 10, none⟩ = some (.int .i64 p.size) from HQ.out.pb.pd)
          clear hK K
          simp only [Act.put, List.setIfInBounds_toArray, List.set_cons_zero, List.set_cons_succ]
          refine held_call 4 39 rfl rfl (by kernel_rfl) (by rfl) (fun K hK => ?_)
          go_simp
          have HRW := Lib.hid (Rds.made (w5) encP [p] 25 #[.string p.id, .int .i64 p.prio, .bool p.crit, .int .i64 p.q0, .int .i64 p.q1, .int .i64 p.q2, .int .i64 p.l0, .int .i64 p.l1, .int .i64 p.l2, .string p.image, .int .i64 p.size] (0, 0) rfl)
          have HOW := Lib.hid (HOW.out.alloc (.cells #[.string p.id, .int .i64 p.prio, .bool p.crit, .int .i64 p.q0, .int .i64 p.q1, .int .i64 p.q2, .int .i64 p.l0, .int .i64 p.l1, .int .i64 p.l2, .string p.image, .int .i64 p.size] 25))
          have HB := Lib.hid (HB.out.alloc HB.out.size (.cells #[.string p.id, .int .i64 p.prio, .bool p.crit, .int .i64 p.q0, .int .i64 p.q1, .int .i64 p.q2, .int .i64 p.l0, .int .i64 p.l1, .int .i64 p.l2, .string p.image, .int .i64 p.size] 25))
          have HQ := Lib.hid (HQd.out.below HB.out)
          have HRi := Lib.hid (HRd.out.below HB.out)
          have HRX := Lib.hid (HRXd.out.below HB.out)
          refine hK _ _ (HQ.out.pb.pd) ?_
          have hHeld := (show ((w5).alloc (.cells #[.string p.id, .int .i64 p.prio, .bool p.crit, .int .i64 p.q0, .int .i64 p.q1, .int .i64 p.q2, .int .i64 p.l0, .int .i64 p.l1, .int .i64 p.l2, .string p.image, .int .i64 p.size] 25)).cell? ⟨w.heap.size + 1, 0, none⟩ = some (.string p.id) ∧ ((w5).alloc (.cells #[.string p.id, .int .i64 p.prio, .bool p.crit, .int .i64 p.q0, .int .i64 p.q1, .int .i64 p.q2, .int .i64 p.l0, .int .i64 p.l1, .int .i64 p.l2, .string p.image, .int .i64 p.size] 25)).cell? ⟨w.heap.size + 1, 1, none⟩ = some (.int .i64 p.prio) ∧ ((w5).alloc (.cells #[.string p.id, .int .i64 p.prio, .bool p.crit, .int .i64 p.q0, .int .i64 p.q1, .int .i64 p.q2, .int .i64 p.l0, .int .i64 p.l1, .int .i64 p.l2, .string p.image, .int .i64 p.size] 25)).cell? ⟨w.heap.size + 1, 2, none⟩ = some (.bool p.crit) ∧ ((w5).alloc (.cells #[.string p.id, .int .i64 p.prio, .bool p.crit, .int .i64 p.q0, .int .i64 p.q1, .int .i64 p.q2, .int .i64 p.l0, .int .i64 p.l1, .int .i64 p.l2, .string p.image, .int .i64 p.size] 25)).cell? ⟨w.heap.size + 1, 3, none⟩ = some (.int .i64 p.q0) ∧ ((w5).alloc (.cells #[.string p.id, .int .i64 p.prio, .bool p.crit, .int .i64 p.q0, .int .i64 p.q1, .int .i64 p.q2, .int .i64 p.l0, .int .i64 p.l1, .int .i64 p.l2, .string p.image, .int .i64 p.size] 25)).cell? ⟨w.heap.size + 1, 4, none⟩ = some (.int .i64 p.q1) ∧ ((w5).alloc (.cells #[.string p.id, .int .i64 p.prio, .bool p.crit, .int .i64 p.q0, .int .i64 p.q1, .int .i64 p.q2, .int .i64 p.l0, .int .i64 p.l1, .int .i64 p.l2, .string p.image, .int .i64 p.size] 25)).cell? ⟨w.heap.size + 1, 5, none⟩ = some (.int .i64 p.q2) ∧ ((w5).alloc (.cells #[.string p.id, .int .i64 p.prio, .bool p.crit, .int .i64 p.q0, .int .i64 p.q1, .int .i64 p.q2, .int .i64 p.l0, .int .i64 p.l1, .int .i64 p.l2, .string p.image, .int .i64 p.size] 25)).cell? ⟨w.heap.size + 1, 6, none⟩ = some (.int .i64 p.l0) ∧ ((w5).alloc (.cells #[.string p.id, .int .i64 p.prio, .bool p.crit, .int .i64 p.q0, .int .i64 p.q1, .int .i64 p.q2, .int .i64 p.l0, .int .i64 p.l1, .int .i64 p.l2, .string p.image, .int .i64 p.size] 25)).cell? ⟨w.heap.size + 1, 7, none⟩ = some (.int .i64 p.l1) ∧ ((w5).alloc (.cells #[.string p.id, .int .i64 p.prio, .bool p.crit, .int .i64 p.q0, .int .i64 p.q1, .int .i64 p.q2, .int .i64 p.l0, .int .i64 p.l1, .int .i64 p.l2, .string p.image, .int .i64 p.size] 25)).cell? ⟨w.heap.size + 1, 8, none⟩ = some (.int .i64 p.l2) ∧ ((w5).alloc (.cells #[.string p.id, .int .i64 p.prio, .bool p.crit, .int .i64 p.q0, .int .i64 p.q1, .int .i64 p.q2, .int .i64 p.l0, .int .i64 p.l1, .int .i64 p.l2, .string p.image, .int .i64 p.size] 25)).cell? ⟨w.heap.size + 1, 9, none⟩ = some (.string p.image) ∧ ((w5).alloc (.cells #[.string p.id, .int .i64 p.prio, .bool p.crit, .int .i64 p.q0, .int .i64 p.q1, .int .i64 p.q2, .int .i64 p.l0, .int .i64 p.l1, .int .i64 p.l2, .string p.image, .int .i64 p.size] 25)).cell? ⟨w.heap.size + 1, 10, none⟩ = some (.int .i64 p.size) from HQ.out.pb.pd)
          clear hK K
          simp only [Act.put, List.setIfInBounds_toArray, List.set_cons_zero, List.set_cons_succ]
          refine held_call 5 40 rfl rfl (by kernel_rfl) (by rfl) (fun K hK => ?_)
          refine wp_app (w5.alloc (.cells #[.string p.id, .int .i64 p.prio, .bool p.crit, .int .i64 p.q0, .int .i64 p.q1, .int .i64 p.q2, .int .i64 p.l0, .int .i64 p.l1, .int .i64 p.l2, .string p.image, .int .i64 p.size] 25)) elemP encP (.tmp 37) (.tmp 39) rfl wd.heap.size _ (leftD O l) (by simp [Act.eval]) HOW.out _ [p] 1 (by simp [Act.eval]) HRW.out (by simp; omega) (by simp; omega) HB.out.size ?_
          intro A7 c7 w7 ho hg _
          have hb7 := HOW.out.belowGrown HB.out hg (Nat.le_refl _) HB.out.size
          have HOW := Lib.hid ho
          have HB := Lib.hid hb7
          clear ho hg hb7
          have HQ := Lib.hid (HQd.out.below HB.out)
          have HRi := Lib.hid (HRd.out.below HB.out)
          have HRX := Lib.hid (HRXd.out.below HB.out)
          refine hK _ _ (HQ.out.pb.pd) ?_
          have hHeld := (show w7.cell? ⟨w.heap.size + 1, 0, none⟩ = some (.string p.id) ∧ w7.cell? ⟨w.heap.size + 1, 1, none⟩ = some (.int .i64 p.prio) ∧ w7.cell? ⟨w.heap.size + 1, 2, none⟩ = some (.bool p.crit) ∧ w7.cell? ⟨w.heap.size + 1, 3, none⟩ = some (.int .i64 p.q0) ∧ w7.cell? ⟨w.heap.size + 1, 4, none⟩ = some (.int .i64 p.q1) ∧ w7.cell? ⟨w.heap.size + 1, 5, none⟩ = some (.int .i64 p.q2) ∧ w7.cell? ⟨w.heap.size + 1, 6, none⟩ = some (.int .i64 p.l0) ∧ w7.cell? ⟨w.heap.size + 1, 7, none⟩ = some (.int .i64 p.l1) ∧ w7.cell? ⟨w.heap.size + 1, 8, none⟩ = some (.int .i64 p.l2) ∧ w7.cell? ⟨w.heap.size + 1, 9, none⟩ = some (.string p.image) ∧ w7.cell? ⟨w.heap.size + 1, 10, none⟩ = some (.int .i64 p.size) from HQ.out.pb.pd)
          clear hK K
          simp only [Act.put, List.setIfInBounds_toArray, List.set_cons_zero, List.set_cons_succ]
          refine held_take 6 9 (.slice A7 ((leftD O l).length + [p].length) c7) rfl rfl (by kernel_rfl) (by kernel_rfl) (by kernel_rfl) (fun _ _ _ h => h) (by rfl) (by intro w' hSw; (try dsimp only at hSw); go_simp; (try (with_reducible rfl))) (by assumption) ?_
          simp only [Act.put, List.setIfInBounds_toArray, List.set_cons_zero, List.set_cons_succ]
          refine wpAnyH_done (by kernel_rfl) ?_ _
          clear hHeld
          go_wp2_with fail
          go_meet
          exact ⟨A7, c7, by simp, by have h := HOW.out.mono HBr.out.size; simpa [List.length_append] using h, below_rV HBr.out HB.out⟩
        · go_simp
          have HRW := Lib.hid (Rds.made (wd) encP [p] 25 #[.string p.id, .int .i64 p.prio, .bool p.crit, .int .i64 p.q0, .int .i64 p.q1, .int .i64 p.q2, .int .i64 p.l0, .int .i64 p.l1, .int .i64 p.l2, .string p.image, .int .i64 p.size] (0, 0) rfl)
          have HB := Lib.hid (HB.out.alloc HB.out.size (.cells #[.string p.id, .int .i64 p.prio, .bool p.crit, .int .i64 p.q0, .int .i64 p.q1, .int .i64 p.q2, .int .i64 p.l0, .int .i64 p.l1, .int .i64 p.l2, .string p.image, .int .i64 p.size] 25))
          have HQ := Lib.hid (HQd.out.below HB.out)
          have HRi := Lib.hid (HRd.out.below HB.out)
          have HRX := Lib.hid (HRXd.out.below HB.out)
          refine hK _ _ (HQ.out.pb.pd) ?_
          have hHeld := (show ((wd).alloc (.cells #[.string p.id, .int .i64 p.prio, .bool p.crit, .int .i64 p.q0, .int .i64 p.q1, .int .i64 p.q2, .int .i64 p.l0, .int .i64 p.l1, .int .i64 p.l2, .string p.image, .int .i64 p.size] 25)).cell? ⟨w.heap.size + 1, 0, none⟩ = some (.string p.id) ∧ ((wd).alloc (.cells #[.string p.id, .int .i64 p.prio, .bool p.crit, .int .i64 p.q0, .int .i64 p.q1, .int .i64 p.q2, .int .i64 p.l0, .int .i64 p.l1, .int .i64 p.l2, .string p.image, .int .i64 p.size] 25)).cell? ⟨w.heap.size + 1, 1, none⟩ = some (.int .i64 p.prio) ∧ ((wd).alloc (.cells #[.string p.id, .int .i64 p.prio, .bool p.crit, .int .i64 p.q0, .int .i64 p.q1, .int .i64 p.q2, .int .i64 p.l0, .int .i64 p.l1, .int .i64 p.l2, .string p.image, .int .i64 p.size] 25)).cell? ⟨w.heap.size + 1, 2, none⟩ = some (.bool p.crit) ∧ ((wd).alloc (.cells #[.string p.id, .int .i64 p.prio, .bool p.crit, .int .i64 p.q0, .int .i64 p.q1, .int .i64 p.q2, .int .i64 p.l0, .int .i64 p.l1, .int .i64 p.l2, .string p.image, .int .i64 p.size] 25)).cell? ⟨w.heap.size + 1, 3, none⟩ = some (.int .i64 p.q0) ∧ ((wd).alloc (.cells #[.string p.id, .int .i64 p.prio, .bool p.crit, .int .i64 p.q0, .int .i64 p.q1, .int .i64 p.q2, .int .i64 p.l0, .int .i64 p.l1, .int .i64 p.l2, .string p.image, .int .i64 p.size] 25)).cell? ⟨w.heap.size + 1, 4, none⟩ = some (.int .i64 p.q1) ∧ ((wd).alloc (.cells #[.string p.id, .int .i64 p.prio, .bool p.crit, .int .i64 p.q0, .int .i64 p.q1, .int .i64 p.q2, .int .i64 p.l0, .int .i64 p.l1, .int .i64 p.l2, .string p.image, .int .i64 p.size] 25)).cell? ⟨w.heap.size + 1, 5, none⟩ = some (.int .i64 p.q2) ∧ ((wd).alloc (.cells #[.string p.id, .int .i64 p.prio, .bool p.crit, .int .i64 p.q0, .int .i64 p.q1, .int .i64 p.q2, .int .i64 p.l0, .int .i64 p.l1, .int .i64 p.l2, .string p.image, .int .i64 p.size] 25)).cell? ⟨w.heap.size + 1, 6, none⟩ = some (.int .i64 p.l0) ∧ ((wd).alloc (.cells #[.string p.id, .int .i64 p.prio, .bool p.crit, .int .i64 p.q0, .int .i64 p.q1, .int .i64 p.q2, .int .i64 p.l0, .int .i64 p.l1, .int .i64 p.l2, .string p.image, .int .i64 p.size] 25)).cell? ⟨w.heap.size + 1, 7, none⟩ = some (.int .i64 p.l1) ∧ ((wd).alloc (.cells #[.string p.id, .int .i64 p.prio, .bool p.crit, .int .i64 p.q0, .int .i64 p.q1, .int .i64 p.q2, .int .i64 p.l0, .int .i64 p.l1, .int .i64 p.l2, .string p.image, .int .i64 p.size] 25)).cell? ⟨w.heap.size + 1, 8, none⟩ = some (.int .i64 p.l2) ∧ ((wd).alloc (.cells #[.string p.id, .int .i64 p.prio, .bool p.crit, .int .i64 p.q0, .int .i64 p.q1, .int .i64 p.q2, .int .i64 p.l0, .int .i64 p.l1, .int .i64 p.l2, .string p.image, .int .i64 p.size] 25)).cell? ⟨w.heap.size + 1, 9, none⟩ = some (.string p.image) ∧ ((wd).alloc (.cells #[.string p.id, .int .i64 p.prio, .bool p.crit, .int .i64 p.q0, .int .i64 p.q1, .int .i64 p.q2, .int .i64 p.l0, .int .i64 p.l1, .int .i64 p.l2, .string p.image, .int .i64 p.size] 25)).cell? ⟨w.heap.size + 1, 10, none⟩ = some (.int .i64 p.size) from HQ.out.pb.pd)
          clear hK K
          simp only [Act.put, List.setIfInBounds_toArray, List.set_cons_zero, List.set_cons_succ]
          refine held_call 2 37 rfl rfl (by kernel_rfl) (by rfl) (fun K hK => ?_)
          go_simp
          go_at_call 22; with_reducible refine (without_any l O Al Ax cl cx _ HRi.out HRX.out (by omega) (by omega)).mono ?_; rintro e w5 ⟨A5, c5, rfl, ho, hb⟩
          have HBS5 := Lib.hid HB.out.size
          have HOW := Lib.hid (ho.mono HBS5.out)
          have HRW := Lib.hid (HRW.out.below hb)
          have HB := Lib.hid (below_rV HB.out hb)
          clear ho hb
          have HQ := Lib.hid (HQd.out.below HB.out)
          have HRi := Lib.hid (HRd.out.below HB.out)
          have HRX := Lib.hid (HRXd.out.below HB.out)
          refine hK _ _ (HQ.out.pb.pd) ?_
          have hHeld := (show w5.cell? ⟨w.heap.size + 1, 0, none⟩ = some (.string p.id) ∧ w5.cell? ⟨w.heap.size + 1, 1, none⟩ = some (.int .i64 p.prio) ∧ w5.cell? ⟨w.heap.size + 1, 2, none⟩ = some (.bool p.crit) ∧ w5.cell? ⟨w.heap.size + 1, 3, none⟩ = some (.int .i64 p.q0) ∧ w5.cell? ⟨w.heap.size + 1, 4, none⟩ = some (.int .i64 p.q1) ∧ w5.cell? ⟨w.heap.size + 1, 5, none⟩ = some (.int .i64 p.q2) ∧ w5.cell? ⟨w.heap.size + 1, 6, none⟩ = some (.int .i64 p.l0) ∧ w5.cell? ⟨w.heap.size + 1, 7, none⟩ = some (.int .i64 p.l1) ∧ w5.cell? ⟨w.heap.size + 1, 8, none⟩ = some (.int .i64 p.l2) ∧ w5.cell? ⟨w.heap.size + 1, 9, none⟩ = some (.string p.image) ∧ w5.cell? ⟨w.heap.size + 1, 10, none⟩ = some (.int .i64 p.size) from HQ.out.pb.pd)
          clear hK K
          simp only [Act.put, List.setIfInBounds_toArray, List.set_cons_zero, List.set_cons_succ]
          refine held_call 5 40 rfl rfl (by kernel_rfl) (by rfl) (fun K hK => ?_)
          refine wp_app (w5) elemP encP (.tmp 37) (.tmp 39) rfl wd.heap.size _ (leftD O l) (by simp [Act.eval]) HOW.out _ [p] 1 (by simp [Act.eval]) HRW.out (by simp; omega) (by simp; omega) HB.out.size ?_
          intro A7 c7 w7 ho hg _
          have hb7 := HOW.out.belowGrown HB.out hg (Nat.le_refl _) HB.out.size
          have HOW := Lib.hid ho
          have HB := Lib.hid hb7
          clear ho hg hb7
          have HQ := Lib.hid (HQd.out.below HB.out)
          have HRi := Lib.hid (HRd.out.below HB.out)
          have HRX := Lib.hid (HRXd.out.below HB.out)
          refine hK _ _ (HQ.out.pb.pd) ?_
          have hHeld := (show w7.cell? ⟨w.heap.size + 1, 0, none⟩ = some (.string p.id) ∧ w7.cell? ⟨w.heap.size + 1, 1, none⟩ = some (.int .i64 p.prio) ∧ w7.cell? ⟨w.heap.size + 1, 2, none⟩ = some (.bool p.crit) ∧ w7.cell? ⟨w.heap.size + 1, 3, none⟩ = some (.int .i64 p.q0) ∧ w7.cell? ⟨w.heap.size + 1, 4, none⟩ = some (.int .i64 p.q1) ∧ w7.cell? ⟨w.heap.size + 1, 5, none⟩ = some (.int .i64 p.q2) ∧ w7.cell? ⟨w.heap.size + 1, 6, none⟩ = some (.int .i64 p.l0) ∧ w7.cell? ⟨w.heap.size + 1, 7, none⟩ = some (.int .i64 p.l1) ∧ w7.cell? ⟨w.heap.size + 1, 8, none⟩ = some (.int .i64 p.l2) ∧ w7.cell? ⟨w.heap.size + 1, 9, none⟩ = some (.string p.image) ∧ w7.cell? ⟨w.heap.size + 1, 10, none⟩ = some (.int .i64 p.size) from HQ.out.pb.pd)
          clear hK K
          simp only [Act.put, List.setIfInBounds_toArray, List.set_cons_zero, List.set_cons_succ]
          refine held_take 6 9 (.slice A7 ((leftD O l).length + [p].length) c7) rfl rfl (by kernel_rfl) (by kernel_rfl) (by kernel_rfl) (fun _ _ _ h => h) (by rfl) (by intro w' hSw; (try dsimp only at hSw); go_simp; (try (with_reducible rfl))) (by assumption) ?_
          simp only [Act.put, List.setIfInBounds_toArray, List.set_cons_zero, List.set_cons_succ]
          refine wpAnyH_done (by kernel_rfl) ?_ _
          clear hHeld
          go_wp2_with fail
          go_meet
          exact ⟨A7, c7, by simp, by have h := HOW.out.mono HBr.out.size; simpa [List.length_append] using h, below_rV HBr.out HB.out⟩
      case rest =>
        obtain ⟨As, cs, rfl, ho7, hb7⟩ := hcut
        rename World => W4
        have HQ := Lib.hid (HQ.out.below hb7)
        have HRi := Lib.hid (HRi.out.below hb7)
        have HRX := Lib.hid (HRX.out.below hb7)
        have HS := Lib.hid ho7.toRds
        have HWS := Lib.hid (show ∀ x ∈ leftD O l ++ [p], x.Wf from fun x hx => by
          rcases List.mem_append.1 hx with h | h
          · exact HW.out x (List.mem_filter.1 h).1
          · rw [List.mem_singleton.1 h]; exact HPW.out)
        have hSl : (leftD O l ++ [p]).length ≤ 65 := by simp; omega
        have hSb := HMIN.out.b
        clear ho7 hb7 HBr hll
        obtain ⟨ST, hST⟩ : ∃ ST, leftD O l ++ [p] = ST := ⟨_, rfl⟩
        have HMA := Lib.hid HMIN.out.a
        have HMIN : Hid (MinS room p l O ST) := ⟨HMIN.out.c, HMIN.out.d, hST ▸ HMIN.out.e⟩
        rw [hST] at HS HWS hSl hSb HMA ⊢
        clear hST
        have crm := HQ.out.rm.cell
        go_wp2_with fail
        refine (fitsV HMA.out HS.out HWS.out (by omega)).mono ?_; rintro e W0 ⟨rfl, hb⟩
        have HQ0 := Lib.hid (HQ.out.below hb)
        have HRi0 := Lib.hid (HRi.out.below hb)
        have HX0 := Lib.hid (HRX.out.below hb)
        have HS0 := Lib.hid (HS.out.below hb)
        clear hb crm HQ HRi HRX HS
        have hw1 : IntKind.i64.wrap ((l.length : Int) + 1) = (l.length : Int) + 1 := by rw [IntKind.wrap_i64]; omega
        have hw2 : IntKind.i64.wrap ((l.length : Int) + 1 - (O.length : Int)) = (ST.length : Int) := by rw [IntKind.wrap_i64]; omega
        go_wp2_with fail
        clear hw1 hw2 hSb
        go_loopw [10, 11, 12] (fun ii ff kk wr => ∃ i : Nat, i ≤ O.length ∧ ii = .int .i64 i ∧ Below W0.heap.size W0 wr) (fun ii _ _ _ => O.length - (intOf ii).toNat)
        case atStart => exact ⟨0, by omega, rfl, Below.refl _ _⟩
        case round =>
          obtain ⟨i, hi, rfl, hbl⟩ := hrel
          have HQB := Lib.hid hbl
          clear hbl
          by_cases hlt : i < O.length
          · have dk : decide ((i : Int) < (O.length : Int)) = true := decide_eq_true (by omega)
            have dk2 : (i : Int) < (O.length : Int) := by omega
            obtain ⟨bx, ox, hB⟩ : ∃ bi oi, Ax = some ⟨bi, oi, none⟩ := by obtain ⟨bi, oi, e, _⟩ := HX0.out.str hlt; exact ⟨bi, oi, e⟩
            obtain rfl : Ax = some ⟨bx, ox, none⟩ := hB
            have HC := Lib.hid (fun (W : World) (hB : Below W0.heap.size W0 W) (j : Nat) (hj : j < O.length) => show W.cell? ⟨bx, ox + j, none⟩ = some (.string O[j]) from by
              obtain ⟨b', off', e, _, h⟩ := (HX0.out.below hB).str hj
              injection e with e; injection e with e1 e2; subst e1; subst e2; exact h)
            have HC1 := Lib.hid (fun (W : World) (hB : Below W0.heap.size W0 W) => HC.out W hB i hlt)
            have HD := Lib.hid (HMIN.out.d i hlt)
            have HSO := Lib.hid (List.getElem_mem hlt)
            have HI1 := Lib.hid hlt
            by_cases h0 : i = 0
            · have HI0 := Lib.hid h0
              clear h0 HC
              generalize O[i] = s at *
              go_wp2_with fail
              have HQB := Lib.hid HQB.out.drew
              refine wp_region_held_drew (S := fun _ => True) (by kernel_rfl) trivial (fun hHeld => ?_)
              refine held_take 0 62 (.int .i64 i) rfl rfl (by kernel_rfl) (by kernel_rfl) (by kernel_rfl) (fun _ _ _ h => h) (by rfl) (by intro w' hSw; (try dsimp only at hSw); go_simp; (try (with_reducible rfl))) (by assumption) ?_
              simp only [Act.put, List.setIfInBounds_toArray, List.set_cons_zero, List.set_cons_succ]
              refine held_take 1 63 (.bool false) rfl rfl (by kernel_rfl) (by kernel_rfl) (by kernel_rfl) (fun _ _ _ h => h) (by rfl) (by intro w' hSw; (try dsimp only at hSw); go_simp; (first | done | with_reducible rfl | (have hh := HI0.out; first | omega | (simp; omega)))) (by assumption) ?_
              simp only [Act.put, List.setIfInBounds_toArray, List.set_cons_zero, List.set_cons_succ]
              refine held_take 2 64 (.bool false) rfl rfl (by kernel_rfl) (by kernel_rfl) (by kernel_rfl) (fun _ _ _ h => h) (by rfl) (by intro w' hSw; (try dsimp only at hSw); go_simp; (try (with_reducible rfl))) (by assumption) ?_
              simp only [Act.put, List.setIfInBounds_toArray, List.set_cons_zero, List.set_cons_succ]
              refine held_skip 3 65 rfl rfl (by kernel_rfl) (by kernel_rfl) (by kernel_rfl) (fun _ _ _ h => h) (by rfl) (by assumption) ?_
              simp only [Act.put, List.setIfInBounds_toArray, List.set_cons_zero, List.set_cons_succ]
              refine held_skip 4 66 rfl rfl (by kernel_rfl) (by kernel_rfl) (by kernel_rfl) (fun _ _ _ h => h) (by rfl) (by assumption) ?_
              simp only [Act.put, List.setIfInBounds_toArray, List.set_cons_zero, List.set_cons_succ]
              refine held_skip 5 67 rfl rfl (by kernel_rfl) (by kernel_rfl) (by kernel_rfl) (fun _ _ _ h => h) (by rfl) (by assumption) ?_
              simp only [Act.put, List.setIfInBounds_toArray, List.set_cons_zero, List.set_cons_succ]
              refine held_skip 6 68 rfl rfl (by kernel_rfl) (by kernel_rfl) (by kernel_rfl) (fun _ _ _ h => h) (by rfl) (by assumption) ?_
              simp only [Act.put, List.setIfInBounds_toArray, List.set_cons_zero, List.set_cons_succ]
              refine held_skip 7 69 rfl rfl (by kernel_rfl) (by kernel_rfl) (by kernel_rfl) (fun _ _ _ h => h) (by rfl) (by assumption) ?_
              simp only [Act.put, List.setIfInBounds_toArray, List.set_cons_zero, List.set_cons_succ]
              refine held_skip 8 70 rfl rfl (by kernel_rfl) (by kernel_rfl) (by kernel_rfl) (fun _ _ _ h => h) (by rfl) (by assumption) ?_
              simp only [Act.put, List.setIfInBounds_toArray, List.set_cons_zero, List.set_cons_succ]
              refine held_skip 9 71 rfl rfl (by kernel_rfl) (by kernel_rfl) (by kernel_rfl) (fun _ _ _ h => h) (by rfl) (by assumption) ?_
              simp only [Act.put, List.setIfInBounds_toArray, List.set_cons_zero, List.set_cons_succ]
              refine held_skip 10 72 rfl rfl (by kernel_rfl) (by kernel_rfl) (by kernel_rfl) (fun _ _ _ h => h) (by rfl) (by assumption) ?_
              simp only [Act.put, List.setIfInBounds_toArray, List.set_cons_zero, List.set_cons_succ]
              refine held_skip 11 73 rfl rfl (by kernel_rfl) (by kernel_rfl) (by kernel_rfl) (fun _ _ _ h => h) (by rfl) (by assumption) ?_
              simp only [Act.put, List.setIfInBounds_toArray, List.set_cons_zero, List.set_cons_succ]
              refine held_skip 12 74 rfl rfl (by kernel_rfl) (by kernel_rfl) (by kernel_rfl) (fun _ _ _ h => h) (by rfl) (by assumption) ?_
              simp only [Act.put, List.setIfInBounds_toArray, List.set_cons_zero, List.set_cons_succ]
              refine held_take 13 75 (.bool false) rfl rfl (by kernel_rfl) (by kernel_rfl) (by kernel_rfl) (fun _ _ _ h => h) (by rfl) (by intro w' hSw; (try dsimp only at hSw); go_simp; (try (with_reducible rfl))) (by assumption) ?_
              simp only [Act.put, List.setIfInBounds_toArray, List.set_cons_zero, List.set_cons_succ]
              refine wpAnyH_done (by kernel_rfl) ?_ _
              clear hHeld
              go_wp2_with fail
              go_loopw [11, 12] (fun ff kk wq => ∃ k : Nat, k ≤ l.length ∧ ff = .bool (anyId (l.take k) s) ∧ kk = .int .i64 k ∧ Below W0.heap.size W0 wq) (fun _ kk _ => l.length - (intOf kk).toNat)
              case atStart => exact ⟨0, by omega, rfl, rfl, HQB.out⟩
              case round =>
                clear HQB
                obtain ⟨k, hk, rfl, rfl, hbl⟩ := hrel
                have HQB := Lib.hid hbl
                clear hbl
                by_cases hkt : k < l.length
                · have dq : decide ((k : Int) < (l.length : Int)) = true := decide_eq_true (by omega)
                  have dq2 : (k : Int) < (l.length : Int) := by omega
                  obtain ⟨b, off, hA⟩ := HR.out.some_ hkt
                  obtain rfl : Al = some ⟨b, off, none⟩ := hA
                  have HYK := Lib.hid (List.getElem?_eq_getElem hkt)
                  have HNX := Lib.hid (anyId_next l s k hkt)
                  have HME := Lib.hid (HMIN.out.e k hkt)
                  have HWYY := Lib.hid (HW.out _ (List.getElem_mem hkt))
                  generalize l[k] = y at *
                  cases h2 : (y.id.toList == s.toList)
                  · have HN : Hid (Value.bool (anyId (l.take k) s) = Value.bool (anyId (l.take (k + 1)) s)) := by show _ = _; rw [HNX.out, h2, Bool.or_false]
                    have HE := Lib.hid h2
                    clear h2 HNX HME
                    obtain ⟨av, hav⟩ : ∃ v, anyId (l.take k) s = v := ⟨_, rfl⟩
                    rw [hav] at HN ⊢
                    clear hav
                    go_wp2_with fail
                    have HQB := Lib.hid HQB.out.drew
                    have z0 := (HRi0.out.pdAt HQB.out HYK.out).1
                    have z1 := (HC1.out _ HQB.out)
                    refine wp_region_held_drew (S := (fun w' => w'.cell? ⟨b, off + k * 11, none⟩ = some (.string y.id) ∧ w'.cell? ⟨bx, ox + i, none⟩ = some (.string s))) (by kernel_rfl) (⟨z0, z1⟩) (fun hHeld => ?_)
                    clear z0 z1
                    refine held_take 0 82 (.slice (some ⟨b, off, none⟩) l.length cl) rfl rfl (by kernel_rfl) (by kernel_rfl) (by kernel_rfl) (fun _ _ _ h => h) (by rfl) (by intro w' hSw; (try dsimp only at hSw); go_simp; (try (with_reducible rfl))) (by assumption) ?_
                    simp only [Act.put, List.setIfInBounds_toArray, List.set_cons_zero, List.set_cons_succ]
                    refine held_take 1 83 (.int .i64 k) rfl rfl (by kernel_rfl) (by kernel_rfl) (by kernel_rfl) (fun _ _ _ h => h) (by rfl) (by intro w' hSw; (try dsimp only at hSw); go_simp; (try (with_reducible rfl))) (by assumption) ?_
                    simp only [Act.put, List.setIfInBounds_toArray, List.set_cons_zero, List.set_cons_succ]
                    refine held_take 2 84 (.pointer (some ⟨b, off + k * 11, none⟩)) rfl rfl (by kernel_rfl) (by kernel_rfl) (by kernel_rfl) (fun _ _ _ h => h) (by rfl) (by intro w' hSw; (try dsimp only at hSw); go_simp; (try (with_reducible rfl))) (by assumption) ?_
                    simp only [Act.put, List.setIfInBounds_toArray, List.set_cons_zero, List.set_cons_succ]
                    refine held_take 3 85 (.pointer (some ⟨b, off + k * 11, none⟩)) rfl rfl (by kernel_rfl) (by kernel_rfl) (by kernel_rfl) (fun _ _ _ h => h) (by rfl) (by intro w' hSw; (try dsimp only at hSw); go_simp; (try (with_reducible rfl))) (by assumption) ?_
                    simp only [Act.put, List.setIfInBounds_toArray, List.set_cons_zero, List.set_cons_succ]
                    refine held_take 4 86 (.string y.id) rfl rfl (by kernel_rfl) (by kernel_rfl) (by kernel_rfl) (fun _ _ _ h => h) (by rfl) (by intro w' hSw; (try dsimp only at hSw); go_simp; (try (with_reducible rfl))) (by assumption) ?_
                    simp only [Act.put, List.setIfInBounds_toArray, List.set_cons_zero, List.set_cons_succ]
                    refine held_take 5 87 (.slice (some ⟨bx, ox, none⟩) O.length cx) rfl rfl (by kernel_rfl) (by kernel_rfl) (by kernel_rfl) (fun _ _ _ h => h) (by rfl) (by intro w' hSw; (try dsimp only at hSw); go_simp; (try (with_reducible rfl))) (by assumption) ?_
                    simp only [Act.put, List.setIfInBounds_toArray, List.set_cons_zero, List.set_cons_succ]
                    refine held_take 6 88 (.int .i64 i) rfl rfl (by kernel_rfl) (by kernel_rfl) (by kernel_rfl) (fun _ _ _ h => h) (by rfl) (by intro w' hSw; (try dsimp only at hSw); go_simp; (try (with_reducible rfl))) (by assumption) ?_
                    simp only [Act.put, List.setIfInBounds_toArray, List.set_cons_zero, List.set_cons_succ]
                    refine held_take 7 89 (.pointer (some ⟨bx, ox + i, none⟩)) rfl rfl (by kernel_rfl) (by kernel_rfl) (by kernel_rfl) (fun _ _ _ h => h) (by rfl) (by intro w' hSw; (try dsimp only at hSw); go_simp; (try (with_reducible rfl))) (by assumption) ?_
                    simp only [Act.put, List.setIfInBounds_toArray, List.set_cons_zero, List.set_cons_succ]
                    refine held_take 8 90 (.string s) rfl rfl (by kernel_rfl) (by kernel_rfl) (by kernel_rfl) (fun _ _ _ h => h) (by rfl) (by intro w' hSw; (try dsimp only at hSw); go_simp; (try (with_reducible rfl))) (by assumption) ?_
                    simp only [Act.put, List.setIfInBounds_toArray, List.set_cons_zero, List.set_cons_succ]
                    refine held_take 9 91 (.bool false) rfl rfl (by kernel_rfl) (by kernel_rfl) (by kernel_rfl) (fun _ _ _ h => h) (by rfl) (by intro w' hSw; (try dsimp only at hSw); go_simp; (first | done | with_reducible rfl | (have hh := HE.out; simpa using hh))) (by assumption) ?_
                    simp only [Act.put, List.setIfInBounds_toArray, List.set_cons_zero, List.set_cons_succ]
                    refine wpAnyH_done (by kernel_rfl) ?_ _
                    clear hHeld
                    go_wp2_with fail
                    go_roundw
                    case rel => exact ⟨k + 1, by omega, HN.out, by go_num, HQB.out⟩
                    case measure => simp [intOf]; omega
                  · have HN : Hid (Value.bool true = Value.bool (anyId (l.take (k + 1)) s)) := by show _ = _; rw [HNX.out, h2, Bool.or_true]
                    have HE := Lib.hid h2
                    have hid := toList_injV h2
                    have hmem : y.id ∈ O := by rw [hid]; exact HSO.out
                    obtain ⟨m1, m2, m3, m4⟩ := HME.out hmem
                    have HPC := Lib.hid m1
                    have HYC := Lib.hid m2
                    have HG := Lib.hid m3
                    have HFY := Lib.hid m4
                    have HWY := Lib.hid (show ∀ x ∈ ST ++ [y], x.Wf from fun x hx => by
                      rcases List.mem_append.1 hx with h | h
                      · exact HWS.out x h
                      · rw [List.mem_singleton.1 h]; exact HWYY.out)
                    clear h2 HNX HME hid hmem m1 m2 m3 m4
                    obtain ⟨av, hav⟩ : ∃ v, anyId (l.take k) s = v := ⟨_, rfl⟩
                    rw [hav]
                    clear hav
                    go_wp2_with fail
                    have HQB := Lib.hid HQB.out.drew
                    have z0 := (HRi0.out.pdAt HQB.out HYK.out).1
                    have z1 := (HC1.out _ HQB.out)
                    refine wp_region_held_drew (S := (fun w' => w'.cell? ⟨b, off + k * 11, none⟩ = some (.string y.id) ∧ w'.cell? ⟨bx, ox + i, none⟩ = some (.string s))) (by kernel_rfl) (⟨z0, z1⟩) (fun hHeld => ?_)
                    clear z0 z1
                    refine held_take 0 82 (.slice (some ⟨b, off, none⟩) l.length cl) rfl rfl (by kernel_rfl) (by kernel_rfl) (by kernel_rfl) (fun _ _ _ h => h) (by rfl) (by intro w' hSw; (try dsimp only at hSw); go_simp; (try (with_reducible rfl))) (by assumption) ?_
                    simp only [Act.put, List.setIfInBounds_toArray, List.set_cons_zero, List.set_cons_succ]
                    refine held_take 1 83 (.int .i64 k) rfl rfl (by kernel_rfl) (by kernel_rfl) (by kernel_rfl) (fun _ _ _ h => h) (by rfl) (by intro w' hSw; (try dsimp only at hSw); go_simp; (try (with_reducible rfl))) (by assumption) ?_
                    simp only [Act.put, List.setIfInBounds_toArray, List.set_cons_zero, List.set_cons_succ]
                    refine held_take 2 84 (.pointer (some ⟨b, off + k * 11, none⟩)) rfl rfl (by kernel_rfl) (by kernel_rfl) (by kernel_rfl) (fun _ _ _ h => h) (by rfl) (by intro w' hSw; (try dsimp only at hSw); go_simp; (try (with_reducible rfl))) (by assumption) ?_
                    simp only [Act.put, List.setIfInBounds_toArray, List.set_cons_zero, List.set_cons_succ]
                    refine held_take 3 85 (.pointer (some ⟨b, off + k * 11, none⟩)) rfl rfl (by kernel_rfl) (by kernel_rfl) (by kernel_rfl) (fun _ _ _ h => h) (by rfl) (by intro w' hSw; (try dsimp only at hSw); go_simp; (try (with_reducible rfl))) (by assumption) ?_
                    simp only [Act.put, List.setIfInBounds_toArray, List.set_cons_zero, List.set_cons_succ]
                    refine held_take 4 86 (.string y.id) rfl rfl (by kernel_rfl) (by kernel_rfl) (by kernel_rfl) (fun _ _ _ h => h) (by rfl) (by intro w' hSw; (try dsimp only at hSw); go_simp; (try (with_reducible rfl))) (by assumption) ?_
                    simp only [Act.put, List.setIfInBounds_toArray, List.set_cons_zero, List.set_cons_succ]
                    refine held_take 5 87 (.slice (some ⟨bx, ox, none⟩) O.length cx) rfl rfl (by kernel_rfl) (by kernel_rfl) (by kernel_rfl) (fun _ _ _ h => h) (by rfl) (by intro w' hSw; (try dsimp only at hSw); go_simp; (try (with_reducible rfl))) (by assumption) ?_
                    simp only [Act.put, List.setIfInBounds_toArray, List.set_cons_zero, List.set_cons_succ]
                    refine held_take 6 88 (.int .i64 i) rfl rfl (by kernel_rfl) (by kernel_rfl) (by kernel_rfl) (fun _ _ _ h => h) (by rfl) (by intro w' hSw; (try dsimp only at hSw); go_simp; (try (with_reducible rfl))) (by assumption) ?_
                    simp only [Act.put, List.setIfInBounds_toArray, List.set_cons_zero, List.set_cons_succ]
                    refine held_take 7 89 (.pointer (some ⟨bx, ox + i, none⟩)) rfl rfl (by kernel_rfl) (by kernel_rfl) (by kernel_rfl) (fun _ _ _ h => h) (by rfl) (by intro w' hSw; (try dsimp only at hSw); go_simp; (try (with_reducible rfl))) (by assumption) ?_
                    simp only [Act.put, List.setIfInBounds_toArray, List.set_cons_zero, List.set_cons_succ]
                    refine held_take 8 90 (.string s) rfl rfl (by kernel_rfl) (by kernel_rfl) (by kernel_rfl) (fun _ _ _ h => h) (by rfl) (by intro w' hSw; (try dsimp only at hSw); go_simp; (try (with_reducible rfl))) (by assumption) ?_
                    simp only [Act.put, List.setIfInBounds_toArray, List.set_cons_zero, List.set_cons_succ]
                    refine held_take 9 91 (.bool true) rfl rfl (by kernel_rfl) (by kernel_rfl) (by kernel_rfl) (fun _ _ _ h => h) (by rfl) (by intro w' hSw; (try dsimp only at hSw); go_simp; (first | done | with_reducible rfl | (have hh := HE.out; simpa using hh))) (by assumption) ?_
                    simp only [Act.put, List.setIfInBounds_toArray, List.set_cons_zero, List.set_cons_succ]
                    refine wpAnyH_done (by kernel_rfl) ?_ _
                    clear hHeld
                    go_wp2_with fail
                    have HQB := Lib.hid HQB.out.drew
                    have HQd := Lib.hid (HQ0.out.below HQB.out)
                    have HRd := Lib.hid (HRi0.out.below HQB.out)
                    have HSd := Lib.hid (HS0.out.below HQB.out)
                    refine wp_region_held_drew (S := (fun w' => w'.cell? ⟨w.heap.size, 0, none⟩ = some (.int .i64 room.a) ∧ w'.cell? ⟨w.heap.size, 1, none⟩ = some (.int .i64 room.b) ∧ w'.cell? ⟨w.heap.size, 2, none⟩ = some (.int .i64 room.c) ∧ w'.cell? ⟨w.heap.size + 1, 0, none⟩ = some (.string p.id) ∧ w'.cell? ⟨w.heap.size + 1, 1, none⟩ = some (.int .i64 p.prio) ∧ w'.cell? ⟨w.heap.size + 1, 2, none⟩ = some (.bool p.crit) ∧ w'.cell? ⟨w.heap.size + 1, 3, none⟩ = some (.int .i64 p.q0) ∧ w'.cell? ⟨w.heap.size + 1, 4, none⟩ = some (.int .i64 p.q1) ∧ w'.cell? ⟨w.heap.size + 1, 5, none⟩ = some (.int .i64 p.q2) ∧ w'.cell? ⟨w.heap.size + 1, 6, none⟩ = some (.int .i64 p.l0) ∧ w'.cell? ⟨w.heap.size + 1, 7, none⟩ = some (.int .i64 p.l1) ∧ w'.cell? ⟨w.heap.size + 1, 8, none⟩ = some (.int .i64 p.l2) ∧ w'.cell? ⟨w.heap.size + 1, 9, none⟩ = some (.string p.image) ∧ w'.cell? ⟨w.heap.size + 1, 10, none⟩ = some (.int .i64 p.size) ∧ w'.cell? ⟨b, off + k * 11, none⟩ = some (.string y.id) ∧ w'.cell? ⟨b, off + k * 11 + 1, none⟩ = some (.int .i64 y.prio) ∧ w'.cell? ⟨b, off + k * 11 + 2, none⟩ = some (.bool y.crit) ∧ w'.cell? ⟨b, off + k * 11 + 3, none⟩ = some (.int .i64 y.q0) ∧ w'.cell? ⟨b, off + k * 11 + 4, none⟩ = some (.int .i64 y.q1) ∧ w'.cell? ⟨b, off + k * 11 + 5, none⟩ = some (.int .i64 y.q2) ∧ w'.cell? ⟨b, off + k * 11 + 6, none⟩ = some (.int .i64 y.l0) ∧ w'.cell? ⟨b, off + k * 11 + 7, none⟩ = some (.int .i64 y.l1) ∧ w'.cell? ⟨b, off + k * 11 + 8, none⟩ = some (.int .i64 y.l2) ∧ w'.cell? ⟨b, off + k * 11 + 9, none⟩ = some (.string y.image) ∧ w'.cell? ⟨b, off + k * 11 + 10, none⟩ = some (.int .i64 y.size))) (by kernel_rfl) (spCells HQd.out HRd.out HYK.out) (fun hHeld => ?_)
                    generalize hwd : World.drew _ = wd at HQB HQd HRd HSd hHeld ⊢
                    clear hwd
                    have hb0 : Below wd.heap.size wd wd := Below.refl _ _
                    have HB := Lib.hid hb0
                    clear hb0
                    have HQ := HQd
                    have HRi := HRd
                    refine held_take 0 92 (.pointer (some ⟨w.heap.size + 1, 2, none⟩)) rfl rfl (by kernel_rfl) (by kernel_rfl) (by kernel_rfl) (fun _ _ _ h => h) (by rfl) (by intro w' hSw; (try dsimp only at hSw); go_simp; (try (with_reducible rfl))) (by assumption) ?_
                    simp only [Act.put, List.setIfInBounds_toArray, List.set_cons_zero, List.set_cons_succ]
                    refine held_take 1 93 (.bool true) rfl rfl (by kernel_rfl) (by kernel_rfl) (by kernel_rfl) (fun _ _ _ h => h) (by rfl) (by intro w' hSw; (try dsimp only at hSw); go_simp; (first | done | with_reducible rfl | (have hh := HPC.out; simpa using hh))) (by assumption) ?_
                    simp only [Act.put, List.setIfInBounds_toArray, List.set_cons_zero, List.set_cons_succ]
                    refine held_take 2 94 (.bool true) rfl rfl (by kernel_rfl) (by kernel_rfl) (by kernel_rfl) (fun _ _ _ h => h) (by rfl) (by intro w' hSw; (try dsimp only at hSw); go_simp; (try (with_reducible rfl))) (by assumption) ?_
                    simp only [Act.put, List.setIfInBounds_toArray, List.set_cons_zero, List.set_cons_succ]
                    refine held_take 3 95 (.slice (some ⟨b, off, none⟩) l.length cl) rfl rfl (by kernel_rfl) (by kernel_rfl) (by kernel_rfl) (fun _ _ _ h => h) (by rfl) (by intro w' hSw; (try dsimp only at hSw); go_simp; (try (with_reducible rfl))) (by assumption) ?_
                    simp only [Act.put, List.setIfInBounds_toArray, List.set_cons_zero, List.set_cons_succ]
                    refine held_take 4 96 (.int .i64 k) rfl rfl (by kernel_rfl) (by kernel_rfl) (by kernel_rfl) (fun _ _ _ h => h) (by rfl) (by intro w' hSw; (try dsimp only at hSw); go_simp; (try (with_reducible rfl))) (by assumption) ?_
                    simp only [Act.put, List.setIfInBounds_toArray, List.set_cons_zero, List.set_cons_succ]
                    refine held_take 5 97 (.pointer (some ⟨b, off + k * 11, none⟩)) rfl rfl (by kernel_rfl) (by kernel_rfl) (by kernel_rfl) (fun _ _ _ h => h) (by rfl) (by intro w' hSw; (try dsimp only at hSw); go_simp; (try (with_reducible rfl))) (by assumption) ?_
                    simp only [Act.put, List.setIfInBounds_toArray, List.set_cons_zero, List.set_cons_succ]
                    refine held_take 6 98 (.pointer (some ⟨b, off + k * 11 + 2, none⟩)) rfl rfl (by kernel_rfl) (by kernel_rfl) (by kernel_rfl) (fun _ _ _ h => h) (by rfl) (by intro w' hSw; (try dsimp only at hSw); go_simp; (try (with_reducible rfl))) (by assumption) ?_
                    simp only [Act.put, List.setIfInBounds_toArray, List.set_cons_zero, List.set_cons_succ]
                    refine held_take 7 99 (.bool false) rfl rfl (by kernel_rfl) (by kernel_rfl) (by kernel_rfl) (fun _ _ _ h => h) (by rfl) (by intro w' hSw; (try dsimp only at hSw); go_simp; (first | done | with_reducible rfl | (have hh := HYC.out; simpa using hh))) (by assumption) ?_
                    simp only [Act.put, List.setIfInBounds_toArray, List.set_cons_zero, List.set_cons_succ]
                    refine held_take 8 100 (.bool true) rfl rfl (by kernel_rfl) (by kernel_rfl) (by kernel_rfl) (fun _ _ _ h => h) (by rfl) (by intro w' hSw; (try dsimp only at hSw); go_simp; (try (with_reducible rfl))) (by assumption) ?_
                    simp only [Act.put, List.setIfInBounds_toArray, List.set_cons_zero, List.set_cons_succ]
                    refine held_take 9 101 (.bool true) rfl rfl (by kernel_rfl) (by kernel_rfl) (by kernel_rfl) (fun _ _ _ h => h) (by rfl) (by intro w' hSw; (try dsimp only at hSw); go_simp; (try (with_reducible rfl))) (by assumption) ?_
                    simp only [Act.put, List.setIfInBounds_toArray, List.set_cons_zero, List.set_cons_succ]
                    refine held_take 10 102 (.bool true) rfl rfl (by kernel_rfl) (by kernel_rfl) (by kernel_rfl) (fun _ _ _ h => h) (by rfl) (by intro w' hSw; (try dsimp only at hSw); go_simp; (try (with_reducible rfl))) (by assumption) ?_
                    simp only [Act.put, List.setIfInBounds_toArray, List.set_cons_zero, List.set_cons_succ]
                    refine held_take 11 103 (.slice (some ⟨b, off, none⟩) l.length cl) rfl rfl (by kernel_rfl) (by kernel_rfl) (by kernel_rfl) (fun _ _ _ h => h) (by rfl) (by intro w' hSw; (try dsimp only at hSw); go_simp; (try (with_reducible rfl))) (by assumption) ?_
                    simp only [Act.put, List.setIfInBounds_toArray, List.set_cons_zero, List.set_cons_succ]
                    refine held_take 12 104 (.int .i64 k) rfl rfl (by kernel_rfl) (by kernel_rfl) (by kernel_rfl) (fun _ _ _ h => h) (by rfl) (by intro w' hSw; (try dsimp only at hSw); go_simp; (try (with_reducible rfl))) (by assumption) ?_
                    simp only [Act.put, List.setIfInBounds_toArray, List.set_cons_zero, List.set_cons_succ]
                    refine held_take 13 105 (.pointer (some ⟨b, off + k * 11, none⟩)) rfl rfl (by kernel_rfl) (by kernel_rfl) (by kernel_rfl) (fun _ _ _ h => h) (by rfl) (by intro w' hSw; (try dsimp only at hSw); go_simp; (try (with_reducible rfl))) (by assumption) ?_
                    simp only [Act.put, List.setIfInBounds_toArray, List.set_cons_zero, List.set_cons_succ]
                    refine held_take 14 106 (.pointer (some ⟨b, off + k * 11 + 1, none⟩)) rfl rfl (by kernel_rfl) (by kernel_rfl) (by kernel_rfl) (fun _ _ _ h => h) (by rfl) (by intro w' hSw; (try dsimp only at hSw); go_simp; (try (with_reducible rfl))) (by assumption) ?_
                    simp only [Act.put, List.setIfInBounds_toArray, List.set_cons_zero, List.set_cons_succ]
                    refine held_take 15 107 (.int .i64 y.prio) rfl rfl (by kernel_rfl) (by kernel_rfl) (by kernel_rfl) (fun _ _ _ h => h) (by rfl) (by intro w' hSw; (try dsimp only at hSw); go_simp; (try (with_reducible rfl))) (by assumption) ?_
                    simp only [Act.put, List.setIfInBounds_toArray, List.set_cons_zero, List.set_cons_succ]
                    refine held_take 16 108 (.pointer (some ⟨w.heap.size + 1, 1, none⟩)) rfl rfl (by kernel_rfl) (by kernel_rfl) (by kernel_rfl) (fun _ _ _ h => h) (by rfl) (by intro w' hSw; (try dsimp only at hSw); go_simp; (try (with_reducible rfl))) (by assumption) ?_
                    simp only [Act.put, List.setIfInBounds_toArray, List.set_cons_zero, List.set_cons_succ]
                    refine held_take 17 109 (.int .i64 p.prio) rfl rfl (by kernel_rfl) (by kernel_rfl) (by kernel_rfl) (fun _ _ _ h => h) (by rfl) (by intro w' hSw; (try dsimp only at hSw); go_simp; (try (with_reducible rfl))) (by assumption) ?_
                    simp only [Act.put, List.setIfInBounds_toArray, List.set_cons_zero, List.set_cons_succ]
                    refine held_take 18 110 (.bool true) rfl rfl (by kernel_rfl) (by kernel_rfl) (by kernel_rfl) (fun _ _ _ h => h) (by rfl) (by intro w' hSw; (try dsimp only at hSw); go_simp; (first | done | with_reducible rfl | (have hh := HG.out; first | omega | (simp; omega)))) (by assumption) ?_
                    simp only [Act.put, List.setIfInBounds_toArray, List.set_cons_zero, List.set_cons_succ]
                    refine held_take 19 111 (.bool true) rfl rfl (by kernel_rfl) (by kernel_rfl) (by kernel_rfl) (fun _ _ _ h => h) (by rfl) (by intro w' hSw; (try dsimp only at hSw); go_simp; (try (with_reducible rfl))) (by assumption) ?_
                    simp only [Act.put, List.setIfInBounds_toArray, List.set_cons_zero, List.set_cons_succ]
                    refine held_take 20 112 (.bool true) rfl rfl (by kernel_rfl) (by kernel_rfl) (by kernel_rfl) (fun _ _ _ h => h) (by rfl) (by intro w' hSw; (try dsimp only at hSw); go_simp; (try (with_reducible rfl))) (by assumption) ?_
                    simp only [Act.put, List.setIfInBounds_toArray, List.set_cons_zero, List.set_cons_succ]
                    refine held_take 21 113 (.agg #[.int .i64 room.a, .int .i64 room.b, .int .i64 room.c]) rfl rfl (by kernel_rfl) (by kernel_rfl) (by kernel_rfl) (fun _ _ _ h => h) (by rfl) (by intro w' hSw; (try dsimp only at hSw); go_simp; (try (with_reducible rfl))) (by assumption) ?_
                    simp only [Act.put, List.setIfInBounds_toArray, List.set_cons_zero, List.set_cons_succ]
                    refine held_take 23 115 (.slice As ST.length cs) rfl rfl (by kernel_rfl) (by kernel_rfl) (by kernel_rfl) (fun _ _ _ h => h) (by rfl) (by intro w' hSw; (try dsimp only at hSw); go_simp; (try (with_reducible rfl))) (by assumption) ?_
                    simp only [Act.put, List.setIfInBounds_toArray, List.set_cons_zero, List.set_cons_succ]
                    refine held_take 25 117 (.slice (some ⟨b, off, none⟩) l.length cl) rfl rfl (by kernel_rfl) (by kernel_rfl) (by kernel_rfl) (fun _ _ _ h => h) (by rfl) (by intro w' hSw; (try dsimp only at hSw); go_simp; (try (with_reducible rfl))) (by assumption) ?_
                    simp only [Act.put, List.setIfInBounds_toArray, List.set_cons_zero, List.set_cons_succ]
                    refine held_take 26 118 (.int .i64 k) rfl rfl (by kernel_rfl) (by kernel_rfl) (by kernel_rfl) (fun _ _ _ h => h) (by rfl) (by intro w' hSw; (try dsimp only at hSw); go_simp; (try (with_reducible rfl))) (by assumption) ?_
                    simp only [Act.put, List.setIfInBounds_toArray, List.set_cons_zero, List.set_cons_succ]
                    refine held_take 27 119 (.pointer (some ⟨b, off + k * 11, none⟩)) rfl rfl (by kernel_rfl) (by kernel_rfl) (by kernel_rfl) (fun _ _ _ h => h) (by rfl) (by intro w' hSw; (try dsimp only at hSw); go_simp; (try (with_reducible rfl))) (by assumption) ?_
                    simp only [Act.put, List.setIfInBounds_toArray, List.set_cons_zero, List.set_cons_succ]
                    refine held_take 28 120 (.agg #[.string y.id, .int .i64 y.prio, .bool y.crit, .int .i64 y.q0, .int .i64 y.q1, .int .i64 y.q2, .int .i64 y.l0, .int .i64 y.l1, .int .i64 y.l2, .string y.image, .int .i64 y.size]) rfl rfl (by kernel_rfl) (by kernel_rfl) (by kernel_rfl) (fun _ _ _ h => h) (by rfl) (by intro w' hSw; (try dsimp only at hSw); go_simp; (try (with_reducible rfl))) (by assumption) ?_
                    simp only [Act.put, List.setIfInBounds_toArray, List.set_cons_zero, List.set_cons_succ]
                    refine held_twoD 22 29 114 121 rfl rfl rfl rfl (by kernel_rfl) (by rfl) (by rfl) (fun K hK => ?_) (fun K hK => ?_)
                    · go_simp
                      have how := Own.made (wd) wd.heap.size 25 encP [] #[] rfl HB.out.size (by simp)
                      have HOW := Lib.hid how
                      clear how
                      have HB := Lib.hid (HB.out.alloc HB.out.size (.cells #[] 25))
                      have HQ := Lib.hid (HQd.out.below HB.out)
                      have HRi := Lib.hid (HRd.out.below HB.out)
                      refine hK _ _ (spCells HQ.out HRi.out HYK.out) ?_
                      have hHeld := (show ((wd).alloc (.cells #[] 25)).cell? ⟨w.heap.size, 0, none⟩ = some (.int .i64 room.a) ∧ ((wd).alloc (.cells #[] 25)).cell? ⟨w.heap.size, 1, none⟩ = some (.int .i64 room.b) ∧ ((wd).alloc (.cells #[] 25)).cell? ⟨w.heap.size, 2, none⟩ = some (.int .i64 room.c) ∧ ((wd).alloc (.cells #[] 25)).cell? ⟨w.heap.size + 1, 0, none⟩ = some (.string p.id) ∧ ((wd).alloc (.cells #[] 25)).cell? ⟨w.heap.size + 1, 1, none⟩ = some (.int .i64 p.prio) ∧ ((wd).alloc (.cells #[] 25)).cell? ⟨w.heap.size + 1, 2, none⟩ = some (.bool p.crit) ∧ ((wd).alloc (.cells #[] 25)).cell? ⟨w.heap.size + 1, 3, none⟩ = some (.int .i64 p.q0) ∧ ((wd).alloc (.cells #[] 25)).cell? ⟨w.heap.size + 1, 4, none⟩ = some (.int .i64 p.q1) ∧ ((wd).alloc (.cells #[] 25)).cell? ⟨w.heap.size + 1, 5, none⟩ = some (.int .i64 p.q2) ∧ ((wd).alloc (.cells #[] 25)).cell? ⟨w.heap.size + 1, 6, none⟩ = some (.int .i64 p.l0) ∧ ((wd).alloc (.cells #[] 25)).cell? ⟨w.heap.size + 1, 7, none⟩ = some (.int .i64 p.l1) ∧ ((wd).alloc (.cells #[] 25)).cell? ⟨w.heap.size + 1, 8, none⟩ = some (.int .i64 p.l2) ∧ ((wd).alloc (.cells #[] 25)).cell? ⟨w.heap.size + 1, 9, none⟩ = some (.string p.image) ∧ ((wd).alloc (.cells #[] 25)).cell? ⟨w.heap.size + 1, 10, none⟩ = some (.int .i64 p.size) ∧ ((wd).alloc (.cells #[] 25)).cell? ⟨b, off + k * 11, none⟩ = some (.string y.id) ∧ ((wd).alloc (.cells #[] 25)).cell? ⟨b, off + k * 11 + 1, none⟩ = some (.int .i64 y.prio) ∧ ((wd).alloc (.cells #[] 25)).cell? ⟨b, off + k * 11 + 2, none⟩ = some (.bool y.crit) ∧ ((wd).alloc (.cells #[] 25)).cell? ⟨b, off + k * 11 + 3, none⟩ = some (.int .i64 y.q0) ∧ ((wd).alloc (.cells #[] 25)).cell? ⟨b, off + k * 11 + 4, none⟩ = some (.int .i64 y.q1) ∧ ((wd).alloc (.cells #[] 25)).cell? ⟨b, off + k * 11 + 5, none⟩ = some (.int .i64 y.q2) ∧ ((wd).alloc (.cells #[] 25)).cell? ⟨b, off + k * 11 + 6, none⟩ = some (.int .i64 y.l0) ∧ ((wd).alloc (.cells #[] 25)).cell? ⟨b, off + k * 11 + 7, none⟩ = some (.int .i64 y.l1) ∧ ((wd).alloc (.cells #[] 25)).cell? ⟨b, off + k * 11 + 8, none⟩ = some (.int .i64 y.l2) ∧ ((wd).alloc (.cells #[] 25)).cell? ⟨b, off + k * 11 + 9, none⟩ = some (.string y.image) ∧ ((wd).alloc (.cells #[] 25)).cell? ⟨b, off + k * 11 + 10, none⟩ = some (.int .i64 y.size) from spCells HQ.out HRi.out HYK.out)
                      clear hK K
                      simp only [Act.put, List.setIfInBounds_toArray, List.set_cons_zero, List.set_cons_succ]
                      refine held_twoD 24 29 116 121 rfl rfl rfl rfl (by kernel_rfl) (by rfl) (by rfl) (fun K hK => ?_) (fun K hK => ?_)
                      · refine wp_app (wd.alloc (.cells #[] 25)) elemP encP (.tmp 114) (.tmp 115) rfl wd.heap.size _ [] (by simp [Act.eval]) HOW.out As ST cs (by simp [Act.eval]) (HSd.out.below (HB.out.mono (by simp))) (by simp; omega) (by simp; omega) HB.out.size ?_
                        intro A5 c5 w5 ho hg _
                        have hb5 := HOW.out.belowGrown HB.out hg (Nat.le_refl _) HB.out.size
                        have how : Own w5 wd.heap.size 25 encP (.slice A5 (ST).length c5) ST := by simpa using ho
                        have HOW := Lib.hid how
                        have HB := Lib.hid hb5
                        clear ho how hg hb5
                        have HQ := Lib.hid (HQd.out.below HB.out)
                        have HRi := Lib.hid (HRd.out.below HB.out)
                        simp only [List.length_nil, Nat.zero_add]
                        refine hK _ _ (spCells HQ.out HRi.out HYK.out) ?_
                        have hHeld := (show w5.cell? ⟨w.heap.size, 0, none⟩ = some (.int .i64 room.a) ∧ w5.cell? ⟨w.heap.size, 1, none⟩ = some (.int .i64 room.b) ∧ w5.cell? ⟨w.heap.size, 2, none⟩ = some (.int .i64 room.c) ∧ w5.cell? ⟨w.heap.size + 1, 0, none⟩ = some (.string p.id) ∧ w5.cell? ⟨w.heap.size + 1, 1, none⟩ = some (.int .i64 p.prio) ∧ w5.cell? ⟨w.heap.size + 1, 2, none⟩ = some (.bool p.crit) ∧ w5.cell? ⟨w.heap.size + 1, 3, none⟩ = some (.int .i64 p.q0) ∧ w5.cell? ⟨w.heap.size + 1, 4, none⟩ = some (.int .i64 p.q1) ∧ w5.cell? ⟨w.heap.size + 1, 5, none⟩ = some (.int .i64 p.q2) ∧ w5.cell? ⟨w.heap.size + 1, 6, none⟩ = some (.int .i64 p.l0) ∧ w5.cell? ⟨w.heap.size + 1, 7, none⟩ = some (.int .i64 p.l1) ∧ w5.cell? ⟨w.heap.size + 1, 8, none⟩ = some (.int .i64 p.l2) ∧ w5.cell? ⟨w.heap.size + 1, 9, none⟩ = some (.string p.image) ∧ w5.cell? ⟨w.heap.size + 1, 10, none⟩ = some (.int .i64 p.size) ∧ w5.cell? ⟨b, off + k * 11, none⟩ = some (.string y.id) ∧ w5.cell? ⟨b, off + k * 11 + 1, none⟩ = some (.int .i64 y.prio) ∧ w5.cell? ⟨b, off + k * 11 + 2, none⟩ = some (.bool y.crit) ∧ w5.cell? ⟨b, off + k * 11 + 3, none⟩ = some (.int .i64 y.q0) ∧ w5.cell? ⟨b, off + k * 11 + 4, none⟩ = some (.int .i64 y.q1) ∧ w5.cell? ⟨b, off + k * 11 + 5, none⟩ = some (.int .i64 y.q2) ∧ w5.cell? ⟨b, off + k * 11 + 6, none⟩ = some (.int .i64 y.l0) ∧ w5.cell? ⟨b, off + k * 11 + 7, none⟩ = some (.int .i64 y.l1) ∧ w5.cell? ⟨b, off + k * 11 + 8, none⟩ = some (.int .i64 y.l2) ∧ w5.cell? ⟨b, off + k * 11 + 9, none⟩ = some (.string y.image) ∧ w5.cell? ⟨b, off + k * 11 + 10, none⟩ = some (.int .i64 y.size) from spCells HQ.out HRi.out HYK.out)
                        clear hK K
                        simp only [Act.put, List.setIfInBounds_toArray, List.set_cons_zero, List.set_cons_succ]
                        refine held_call 29 121 rfl rfl (by kernel_rfl) (by rfl) (fun K hK => ?_)
                        go_simp
                        have hrw := Rds.made (w5) encP [y] 25 #[.string y.id, .int .i64 y.prio, .bool y.crit, .int .i64 y.q0, .int .i64 y.q1, .int .i64 y.q2, .int .i64 y.l0, .int .i64 y.l1, .int .i64 y.l2, .string y.image, .int .i64 y.size] (0, 0) rfl
                        have HOW := Lib.hid (HOW.out.alloc (.cells #[.string y.id, .int .i64 y.prio, .bool y.crit, .int .i64 y.q0, .int .i64 y.q1, .int .i64 y.q2, .int .i64 y.l0, .int .i64 y.l1, .int .i64 y.l2, .string y.image, .int .i64 y.size] 25))
                        have HRW := Lib.hid hrw
                        clear hrw
                        have HB := Lib.hid (HB.out.alloc HB.out.size (.cells #[.string y.id, .int .i64 y.prio, .bool y.crit, .int .i64 y.q0, .int .i64 y.q1, .int .i64 y.q2, .int .i64 y.l0, .int .i64 y.l1, .int .i64 y.l2, .string y.image, .int .i64 y.size] 25))
                        have HQ := Lib.hid (HQd.out.below HB.out)
                        have HRi := Lib.hid (HRd.out.below HB.out)
                        refine hK _ _ (spCells HQ.out HRi.out HYK.out) ?_
                        have hHeld := (show ((w5).alloc (.cells #[.string y.id, .int .i64 y.prio, .bool y.crit, .int .i64 y.q0, .int .i64 y.q1, .int .i64 y.q2, .int .i64 y.l0, .int .i64 y.l1, .int .i64 y.l2, .string y.image, .int .i64 y.size] 25)).cell? ⟨w.heap.size, 0, none⟩ = some (.int .i64 room.a) ∧ ((w5).alloc (.cells #[.string y.id, .int .i64 y.prio, .bool y.crit, .int .i64 y.q0, .int .i64 y.q1, .int .i64 y.q2, .int .i64 y.l0, .int .i64 y.l1, .int .i64 y.l2, .string y.image, .int .i64 y.size] 25)).cell? ⟨w.heap.size, 1, none⟩ = some (.int .i64 room.b) ∧ ((w5).alloc (.cells #[.string y.id, .int .i64 y.prio, .bool y.crit, .int .i64 y.q0, .int .i64 y.q1, .int .i64 y.q2, .int .i64 y.l0, .int .i64 y.l1, .int .i64 y.l2, .string y.image, .int .i64 y.size] 25)).cell? ⟨w.heap.size, 2, none⟩ = some (.int .i64 room.c) ∧ ((w5).alloc (.cells #[.string y.id, .int .i64 y.prio, .bool y.crit, .int .i64 y.q0, .int .i64 y.q1, .int .i64 y.q2, .int .i64 y.l0, .int .i64 y.l1, .int .i64 y.l2, .string y.image, .int .i64 y.size] 25)).cell? ⟨w.heap.size + 1, 0, none⟩ = some (.string p.id) ∧ ((w5).alloc (.cells #[.string y.id, .int .i64 y.prio, .bool y.crit, .int .i64 y.q0, .int .i64 y.q1, .int .i64 y.q2, .int .i64 y.l0, .int .i64 y.l1, .int .i64 y.l2, .string y.image, .int .i64 y.size] 25)).cell? ⟨w.heap.size + 1, 1, none⟩ = some (.int .i64 p.prio) ∧ ((w5).alloc (.cells #[.string y.id, .int .i64 y.prio, .bool y.crit, .int .i64 y.q0, .int .i64 y.q1, .int .i64 y.q2, .int .i64 y.l0, .int .i64 y.l1, .int .i64 y.l2, .string y.image, .int .i64 y.size] 25)).cell? ⟨w.heap.size + 1, 2, none⟩ = some (.bool p.crit) ∧ ((w5).alloc (.cells #[.string y.id, .int .i64 y.prio, .bool y.crit, .int .i64 y.q0, .int .i64 y.q1, .int .i64 y.q2, .int .i64 y.l0, .int .i64 y.l1, .int .i64 y.l2, .string y.image, .int .i64 y.size] 25)).cell? ⟨w.heap.size + 1, 3, none⟩ = some (.int .i64 p.q0) ∧ ((w5).alloc (.cells #[.string y.id, .int .i64 y.prio, .bool y.crit, .int .i64 y.q0, .int .i64 y.q1, .int .i64 y.q2, .int .i64 y.l0, .int .i64 y.l1, .int .i64 y.l2, .string y.image, .int .i64 y.size] 25)).cell? ⟨w.heap.size + 1, 4, none⟩ = some (.int .i64 p.q1) ∧ ((w5).alloc (.cells #[.string y.id, .int .i64 y.prio, .bool y.crit, .int .i64 y.q0, .int .i64 y.q1, .int .i64 y.q2, .int .i64 y.l0, .int .i64 y.l1, .int .i64 y.l2, .string y.image, .int .i64 y.size] 25)).cell? ⟨w.heap.size + 1, 5, none⟩ = some (.int .i64 p.q2) ∧ ((w5).alloc (.cells #[.string y.id, .int .i64 y.prio, .bool y.crit, .int .i64 y.q0, .int .i64 y.q1, .int .i64 y.q2, .int .i64 y.l0, .int .i64 y.l1, .int .i64 y.l2, .string y.image, .int .i64 y.size] 25)).cell? ⟨w.heap.size + 1, 6, none⟩ = some (.int .i64 p.l0) ∧ ((w5).alloc (.cells #[.string y.id, .int .i64 y.prio, .bool y.crit, .int .i64 y.q0, .int .i64 y.q1, .int .i64 y.q2, .int .i64 y.l0, .int .i64 y.l1, .int .i64 y.l2, .string y.image, .int .i64 y.size] 25)).cell? ⟨w.heap.size + 1, 7, none⟩ = some (.int .i64 p.l1) ∧ ((w5).alloc (.cells #[.string y.id, .int .i64 y.prio, .bool y.crit, .int .i64 y.q0, .int .i64 y.q1, .int .i64 y.q2, .int .i64 y.l0, .int .i64 y.l1, .int .i64 y.l2, .string y.image, .int .i64 y.size] 25)).cell? ⟨w.heap.size + 1, 8, none⟩ = some (.int .i64 p.l2) ∧ ((w5).alloc (.cells #[.string y.id, .int .i64 y.prio, .bool y.crit, .int .i64 y.q0, .int .i64 y.q1, .int .i64 y.q2, .int .i64 y.l0, .int .i64 y.l1, .int .i64 y.l2, .string y.image, .int .i64 y.size] 25)).cell? ⟨w.heap.size + 1, 9, none⟩ = some (.string p.image) ∧ ((w5).alloc (.cells #[.string y.id, .int .i64 y.prio, .bool y.crit, .int .i64 y.q0, .int .i64 y.q1, .int .i64 y.q2, .int .i64 y.l0, .int .i64 y.l1, .int .i64 y.l2, .string y.image, .int .i64 y.size] 25)).cell? ⟨w.heap.size + 1, 10, none⟩ = some (.int .i64 p.size) ∧ ((w5).alloc (.cells #[.string y.id, .int .i64 y.prio, .bool y.crit, .int .i64 y.q0, .int .i64 y.q1, .int .i64 y.q2, .int .i64 y.l0, .int .i64 y.l1, .int .i64 y.l2, .string y.image, .int .i64 y.size] 25)).cell? ⟨b, off + k * 11, none⟩ = some (.string y.id) ∧ ((w5).alloc (.cells #[.string y.id, .int .i64 y.prio, .bool y.crit, .int .i64 y.q0, .int .i64 y.q1, .int .i64 y.q2, .int .i64 y.l0, .int .i64 y.l1, .int .i64 y.l2, .string y.image, .int .i64 y.size] 25)).cell? ⟨b, off + k * 11 + 1, none⟩ = some (.int .i64 y.prio) ∧ ((w5).alloc (.cells #[.string y.id, .int .i64 y.prio, .bool y.crit, .int .i64 y.q0, .int .i64 y.q1, .int .i64 y.q2, .int .i64 y.l0, .int .i64 y.l1, .int .i64 y.l2, .string y.image, .int .i64 y.size] 25)).cell? ⟨b, off + k * 11 + 2, none⟩ = some (.bool y.crit) ∧ ((w5).alloc (.cells #[.string y.id, .int .i64 y.prio, .bool y.crit, .int .i64 y.q0, .int .i64 y.q1, .int .i64 y.q2, .int .i64 y.l0, .int .i64 y.l1, .int .i64 y.l2, .string y.image, .int .i64 y.size] 25)).cell? ⟨b, off + k * 11 + 3, none⟩ = some (.int .i64 y.q0) ∧ ((w5).alloc (.cells #[.string y.id, .int .i64 y.prio, .bool y.crit, .int .i64 y.q0, .int .i64 y.q1, .int .i64 y.q2, .int .i64 y.l0, .int .i64 y.l1, .int .i64 y.l2, .string y.image, .int .i64 y.size] 25)).cell? ⟨b, off + k * 11 + 4, none⟩ = some (.int .i64 y.q1) ∧ ((w5).alloc (.cells #[.string y.id, .int .i64 y.prio, .bool y.crit, .int .i64 y.q0, .int .i64 y.q1, .int .i64 y.q2, .int .i64 y.l0, .int .i64 y.l1, .int .i64 y.l2, .string y.image, .int .i64 y.size] 25)).cell? ⟨b, off + k * 11 + 5, none⟩ = some (.int .i64 y.q2) ∧ ((w5).alloc (.cells #[.string y.id, .int .i64 y.prio, .bool y.crit, .int .i64 y.q0, .int .i64 y.q1, .int .i64 y.q2, .int .i64 y.l0, .int .i64 y.l1, .int .i64 y.l2, .string y.image, .int .i64 y.size] 25)).cell? ⟨b, off + k * 11 + 6, none⟩ = some (.int .i64 y.l0) ∧ ((w5).alloc (.cells #[.string y.id, .int .i64 y.prio, .bool y.crit, .int .i64 y.q0, .int .i64 y.q1, .int .i64 y.q2, .int .i64 y.l0, .int .i64 y.l1, .int .i64 y.l2, .string y.image, .int .i64 y.size] 25)).cell? ⟨b, off + k * 11 + 7, none⟩ = some (.int .i64 y.l1) ∧ ((w5).alloc (.cells #[.string y.id, .int .i64 y.prio, .bool y.crit, .int .i64 y.q0, .int .i64 y.q1, .int .i64 y.q2, .int .i64 y.l0, .int .i64 y.l1, .int .i64 y.l2, .string y.image, .int .i64 y.size] 25)).cell? ⟨b, off + k * 11 + 8, none⟩ = some (.int .i64 y.l2) ∧ ((w5).alloc (.cells #[.string y.id, .int .i64 y.prio, .bool y.crit, .int .i64 y.q0, .int .i64 y.q1, .int .i64 y.q2, .int .i64 y.l0, .int .i64 y.l1, .int .i64 y.l2, .string y.image, .int .i64 y.size] 25)).cell? ⟨b, off + k * 11 + 9, none⟩ = some (.string y.image) ∧ ((w5).alloc (.cells #[.string y.id, .int .i64 y.prio, .bool y.crit, .int .i64 y.q0, .int .i64 y.q1, .int .i64 y.q2, .int .i64 y.l0, .int .i64 y.l1, .int .i64 y.l2, .string y.image, .int .i64 y.size] 25)).cell? ⟨b, off + k * 11 + 10, none⟩ = some (.int .i64 y.size) from spCells HQ.out HRi.out HYK.out)
                        clear hK K
                        simp only [Act.put, List.setIfInBounds_toArray, List.set_cons_zero, List.set_cons_succ]
                        refine held_call 30 122 rfl rfl (by kernel_rfl) (by rfl) (fun K hK => ?_)
                        refine wp_app (w5.alloc (.cells #[.string y.id, .int .i64 y.prio, .bool y.crit, .int .i64 y.q0, .int .i64 y.q1, .int .i64 y.q2, .int .i64 y.l0, .int .i64 y.l1, .int .i64 y.l2, .string y.image, .int .i64 y.size] 25)) elemP encP (.tmp 116) (.tmp 121) rfl wd.heap.size _ ST (by simp [Act.eval]) HOW.out _ [y] 1 (by simp [Act.eval]) HRW.out (by simp; omega) (by simp; omega) HB.out.size ?_
                        intro A7 c7 w7 ho hg _
                        have hb7 := HOW.out.belowGrown HB.out hg (Nat.le_refl _) HB.out.size
                        have HOW := Lib.hid ho
                        have HB := Lib.hid hb7
                        clear ho hg hb7
                        have HQ := Lib.hid (HQd.out.below HB.out)
                        have HRi := Lib.hid (HRd.out.below HB.out)
                        refine hK _ _ (spCells HQ.out HRi.out HYK.out) ?_
                        have hHeld := (show w7.cell? ⟨w.heap.size, 0, none⟩ = some (.int .i64 room.a) ∧ w7.cell? ⟨w.heap.size, 1, none⟩ = some (.int .i64 room.b) ∧ w7.cell? ⟨w.heap.size, 2, none⟩ = some (.int .i64 room.c) ∧ w7.cell? ⟨w.heap.size + 1, 0, none⟩ = some (.string p.id) ∧ w7.cell? ⟨w.heap.size + 1, 1, none⟩ = some (.int .i64 p.prio) ∧ w7.cell? ⟨w.heap.size + 1, 2, none⟩ = some (.bool p.crit) ∧ w7.cell? ⟨w.heap.size + 1, 3, none⟩ = some (.int .i64 p.q0) ∧ w7.cell? ⟨w.heap.size + 1, 4, none⟩ = some (.int .i64 p.q1) ∧ w7.cell? ⟨w.heap.size + 1, 5, none⟩ = some (.int .i64 p.q2) ∧ w7.cell? ⟨w.heap.size + 1, 6, none⟩ = some (.int .i64 p.l0) ∧ w7.cell? ⟨w.heap.size + 1, 7, none⟩ = some (.int .i64 p.l1) ∧ w7.cell? ⟨w.heap.size + 1, 8, none⟩ = some (.int .i64 p.l2) ∧ w7.cell? ⟨w.heap.size + 1, 9, none⟩ = some (.string p.image) ∧ w7.cell? ⟨w.heap.size + 1, 10, none⟩ = some (.int .i64 p.size) ∧ w7.cell? ⟨b, off + k * 11, none⟩ = some (.string y.id) ∧ w7.cell? ⟨b, off + k * 11 + 1, none⟩ = some (.int .i64 y.prio) ∧ w7.cell? ⟨b, off + k * 11 + 2, none⟩ = some (.bool y.crit) ∧ w7.cell? ⟨b, off + k * 11 + 3, none⟩ = some (.int .i64 y.q0) ∧ w7.cell? ⟨b, off + k * 11 + 4, none⟩ = some (.int .i64 y.q1) ∧ w7.cell? ⟨b, off + k * 11 + 5, none⟩ = some (.int .i64 y.q2) ∧ w7.cell? ⟨b, off + k * 11 + 6, none⟩ = some (.int .i64 y.l0) ∧ w7.cell? ⟨b, off + k * 11 + 7, none⟩ = some (.int .i64 y.l1) ∧ w7.cell? ⟨b, off + k * 11 + 8, none⟩ = some (.int .i64 y.l2) ∧ w7.cell? ⟨b, off + k * 11 + 9, none⟩ = some (.string y.image) ∧ w7.cell? ⟨b, off + k * 11 + 10, none⟩ = some (.int .i64 y.size) from spCells HQ.out HRi.out HYK.out)
                        clear hK K
                        simp only [Act.put, List.setIfInBounds_toArray, List.set_cons_zero, List.set_cons_succ]
                        refine held_call 31 123 rfl rfl (by kernel_rfl) (by rfl) (fun K hK => ?_)
                        go_simp
                        have HO7 := Lib.hid (show Rds w7 encP A7 (ST ++ [y]) from HOW.out.toRds)
                        go_at_call 18; with_reducible refine (fitsN (show ST.length + 1 = (ST ++ [y]).length by simp) HFY.out HO7.out HWY.out (by simp; omega)).mono ?_; rintro e w9 ⟨rfl, hb⟩
                        have HB := Lib.hid (below_rV HB.out hb)
                        have HQ := Lib.hid (HQd.out.below HB.out)
                        have HRi := Lib.hid (HRd.out.below HB.out)
                        clear hb
                        refine hK _ _ (spCells HQ.out HRi.out HYK.out) ?_
                        have hHeld := (show w9.cell? ⟨w.heap.size, 0, none⟩ = some (.int .i64 room.a) ∧ w9.cell? ⟨w.heap.size, 1, none⟩ = some (.int .i64 room.b) ∧ w9.cell? ⟨w.heap.size, 2, none⟩ = some (.int .i64 room.c) ∧ w9.cell? ⟨w.heap.size + 1, 0, none⟩ = some (.string p.id) ∧ w9.cell? ⟨w.heap.size + 1, 1, none⟩ = some (.int .i64 p.prio) ∧ w9.cell? ⟨w.heap.size + 1, 2, none⟩ = some (.bool p.crit) ∧ w9.cell? ⟨w.heap.size + 1, 3, none⟩ = some (.int .i64 p.q0) ∧ w9.cell? ⟨w.heap.size + 1, 4, none⟩ = some (.int .i64 p.q1) ∧ w9.cell? ⟨w.heap.size + 1, 5, none⟩ = some (.int .i64 p.q2) ∧ w9.cell? ⟨w.heap.size + 1, 6, none⟩ = some (.int .i64 p.l0) ∧ w9.cell? ⟨w.heap.size + 1, 7, none⟩ = some (.int .i64 p.l1) ∧ w9.cell? ⟨w.heap.size + 1, 8, none⟩ = some (.int .i64 p.l2) ∧ w9.cell? ⟨w.heap.size + 1, 9, none⟩ = some (.string p.image) ∧ w9.cell? ⟨w.heap.size + 1, 10, none⟩ = some (.int .i64 p.size) ∧ w9.cell? ⟨b, off + k * 11, none⟩ = some (.string y.id) ∧ w9.cell? ⟨b, off + k * 11 + 1, none⟩ = some (.int .i64 y.prio) ∧ w9.cell? ⟨b, off + k * 11 + 2, none⟩ = some (.bool y.crit) ∧ w9.cell? ⟨b, off + k * 11 + 3, none⟩ = some (.int .i64 y.q0) ∧ w9.cell? ⟨b, off + k * 11 + 4, none⟩ = some (.int .i64 y.q1) ∧ w9.cell? ⟨b, off + k * 11 + 5, none⟩ = some (.int .i64 y.q2) ∧ w9.cell? ⟨b, off + k * 11 + 6, none⟩ = some (.int .i64 y.l0) ∧ w9.cell? ⟨b, off + k * 11 + 7, none⟩ = some (.int .i64 y.l1) ∧ w9.cell? ⟨b, off + k * 11 + 8, none⟩ = some (.int .i64 y.l2) ∧ w9.cell? ⟨b, off + k * 11 + 9, none⟩ = some (.string y.image) ∧ w9.cell? ⟨b, off + k * 11 + 10, none⟩ = some (.int .i64 y.size) from spCells HQ.out HRi.out HYK.out)
                        clear hK K
                        simp only [Act.put, List.setIfInBounds_toArray, List.set_cons_zero, List.set_cons_succ]
                        refine held_take 32 124 (.bool true) rfl rfl (by kernel_rfl) (by kernel_rfl) (by kernel_rfl) (fun _ _ _ h => h) (by rfl) (by intro w' hSw; (try dsimp only at hSw); go_simp; (try (with_reducible rfl))) (by assumption) ?_
                        simp only [Act.put, List.setIfInBounds_toArray, List.set_cons_zero, List.set_cons_succ]
                        refine held_take 33 125 (.bool true) rfl rfl (by kernel_rfl) (by kernel_rfl) (by kernel_rfl) (fun _ _ _ h => h) (by rfl) (by intro w' hSw; (try dsimp only at hSw); go_simp; (try (with_reducible rfl))) (by assumption) ?_
                        simp only [Act.put, List.setIfInBounds_toArray, List.set_cons_zero, List.set_cons_succ]
                        refine held_take 34 11 (.bool true) rfl rfl (by kernel_rfl) (by kernel_rfl) (by kernel_rfl) (fun _ _ _ h => h) (by rfl) (by intro w' hSw; (try dsimp only at hSw); go_simp; (try (with_reducible rfl))) (by assumption) ?_
                        simp only [Act.put, List.setIfInBounds_toArray, List.set_cons_zero, List.set_cons_succ]
                        refine wpAnyH_done (by kernel_rfl) ?_ _
                        clear hHeld
                        go_wp2_with fail
                        go_roundw
                        case rel => exact ⟨k + 1, by omega, HN.out, by go_num, below_rV HQB.out HB.out⟩
                        case measure => simp [intOf]; omega
                      · go_simp
                        have hrw := Rds.made (wd.alloc (.cells #[] 25)) encP [y] 25 #[.string y.id, .int .i64 y.prio, .bool y.crit, .int .i64 y.q0, .int .i64 y.q1, .int .i64 y.q2, .int .i64 y.l0, .int .i64 y.l1, .int .i64 y.l2, .string y.image, .int .i64 y.size] (0, 0) rfl
                        rw [show (wd.alloc (.cells #[] 25)).heap.size = wd.heap.size + 1 from by simp] at hrw
                        have HOW := Lib.hid (HOW.out.alloc (.cells #[.string y.id, .int .i64 y.prio, .bool y.crit, .int .i64 y.q0, .int .i64 y.q1, .int .i64 y.q2, .int .i64 y.l0, .int .i64 y.l1, .int .i64 y.l2, .string y.image, .int .i64 y.size] 25))
                        have HRW := Lib.hid hrw
                        clear hrw
                        have HB := Lib.hid (HB.out.alloc HB.out.size (.cells #[.string y.id, .int .i64 y.prio, .bool y.crit, .int .i64 y.q0, .int .i64 y.q1, .int .i64 y.q2, .int .i64 y.l0, .int .i64 y.l1, .int .i64 y.l2, .string y.image, .int .i64 y.size] 25))
                        have HQ := Lib.hid (HQd.out.below HB.out)
                        have HRi := Lib.hid (HRd.out.below HB.out)
                        refine hK _ _ (spCells HQ.out HRi.out HYK.out) ?_
                        have hHeld := (show ((wd.alloc (.cells #[] 25)).alloc (.cells #[.string y.id, .int .i64 y.prio, .bool y.crit, .int .i64 y.q0, .int .i64 y.q1, .int .i64 y.q2, .int .i64 y.l0, .int .i64 y.l1, .int .i64 y.l2, .string y.image, .int .i64 y.size] 25)).cell? ⟨w.heap.size, 0, none⟩ = some (.int .i64 room.a) ∧ ((wd.alloc (.cells #[] 25)).alloc (.cells #[.string y.id, .int .i64 y.prio, .bool y.crit, .int .i64 y.q0, .int .i64 y.q1, .int .i64 y.q2, .int .i64 y.l0, .int .i64 y.l1, .int .i64 y.l2, .string y.image, .int .i64 y.size] 25)).cell? ⟨w.heap.size, 1, none⟩ = some (.int .i64 room.b) ∧ ((wd.alloc (.cells #[] 25)).alloc (.cells #[.string y.id, .int .i64 y.prio, .bool y.crit, .int .i64 y.q0, .int .i64 y.q1, .int .i64 y.q2, .int .i64 y.l0, .int .i64 y.l1, .int .i64 y.l2, .string y.image, .int .i64 y.size] 25)).cell? ⟨w.heap.size, 2, none⟩ = some (.int .i64 room.c) ∧ ((wd.alloc (.cells #[] 25)).alloc (.cells #[.string y.id, .int .i64 y.prio, .bool y.crit, .int .i64 y.q0, .int .i64 y.q1, .int .i64 y.q2, .int .i64 y.l0, .int .i64 y.l1, .int .i64 y.l2, .string y.image, .int .i64 y.size] 25)).cell? ⟨w.heap.size + 1, 0, none⟩ = some (.string p.id) ∧ ((wd.alloc (.cells #[] 25)).alloc (.cells #[.string y.id, .int .i64 y.prio, .bool y.crit, .int .i64 y.q0, .int .i64 y.q1, .int .i64 y.q2, .int .i64 y.l0, .int .i64 y.l1, .int .i64 y.l2, .string y.image, .int .i64 y.size] 25)).cell? ⟨w.heap.size + 1, 1, none⟩ = some (.int .i64 p.prio) ∧ ((wd.alloc (.cells #[] 25)).alloc (.cells #[.string y.id, .int .i64 y.prio, .bool y.crit, .int .i64 y.q0, .int .i64 y.q1, .int .i64 y.q2, .int .i64 y.l0, .int .i64 y.l1, .int .i64 y.l2, .string y.image, .int .i64 y.size] 25)).cell? ⟨w.heap.size + 1, 2, none⟩ = some (.bool p.crit) ∧ ((wd.alloc (.cells #[] 25)).alloc (.cells #[.string y.id, .int .i64 y.prio, .bool y.crit, .int .i64 y.q0, .int .i64 y.q1, .int .i64 y.q2, .int .i64 y.l0, .int .i64 y.l1, .int .i64 y.l2, .string y.image, .int .i64 y.size] 25)).cell? ⟨w.heap.size + 1, 3, none⟩ = some (.int .i64 p.q0) ∧ ((wd.alloc (.cells #[] 25)).alloc (.cells #[.string y.id, .int .i64 y.prio, .bool y.crit, .int .i64 y.q0, .int .i64 y.q1, .int .i64 y.q2, .int .i64 y.l0, .int .i64 y.l1, .int .i64 y.l2, .string y.image, .int .i64 y.size] 25)).cell? ⟨w.heap.size + 1, 4, none⟩ = some (.int .i64 p.q1) ∧ ((wd.alloc (.cells #[] 25)).alloc (.cells #[.string y.id, .int .i64 y.prio, .bool y.crit, .int .i64 y.q0, .int .i64 y.q1, .int .i64 y.q2, .int .i64 y.l0, .int .i64 y.l1, .int .i64 y.l2, .string y.image, .int .i64 y.size] 25)).cell? ⟨w.heap.size + 1, 5, none⟩ = some (.int .i64 p.q2) ∧ ((wd.alloc (.cells #[] 25)).alloc (.cells #[.string y.id, .int .i64 y.prio, .bool y.crit, .int .i64 y.q0, .int .i64 y.q1, .int .i64 y.q2, .int .i64 y.l0, .int .i64 y.l1, .int .i64 y.l2, .string y.image, .int .i64 y.size] 25)).cell? ⟨w.heap.size + 1, 6, none⟩ = some (.int .i64 p.l0) ∧ ((wd.alloc (.cells #[] 25)).alloc (.cells #[.string y.id, .int .i64 y.prio, .bool y.crit, .int .i64 y.q0, .int .i64 y.q1, .int .i64 y.q2, .int .i64 y.l0, .int .i64 y.l1, .int .i64 y.l2, .string y.image, .int .i64 y.size] 25)).cell? ⟨w.heap.size + 1, 7, none⟩ = some (.int .i64 p.l1) ∧ ((wd.alloc (.cells #[] 25)).alloc (.cells #[.string y.id, .int .i64 y.prio, .bool y.crit, .int .i64 y.q0, .int .i64 y.q1, .int .i64 y.q2, .int .i64 y.l0, .int .i64 y.l1, .int .i64 y.l2, .string y.image, .int .i64 y.size] 25)).cell? ⟨w.heap.size + 1, 8, none⟩ = some (.int .i64 p.l2) ∧ ((wd.alloc (.cells #[] 25)).alloc (.cells #[.string y.id, .int .i64 y.prio, .bool y.crit, .int .i64 y.q0, .int .i64 y.q1, .int .i64 y.q2, .int .i64 y.l0, .int .i64 y.l1, .int .i64 y.l2, .string y.image, .int .i64 y.size] 25)).cell? ⟨w.heap.size + 1, 9, none⟩ = some (.string p.image) ∧ ((wd.alloc (.cells #[] 25)).alloc (.cells #[.string y.id, .int .i64 y.prio, .bool y.crit, .int .i64 y.q0, .int .i64 y.q1, .int .i64 y.q2, .int .i64 y.l0, .int .i64 y.l1, .int .i64 y.l2, .string y.image, .int .i64 y.size] 25)).cell? ⟨w.heap.size + 1, 10, none⟩ = some (.int .i64 p.size) ∧ ((wd.alloc (.cells #[] 25)).alloc (.cells #[.string y.id, .int .i64 y.prio, .bool y.crit, .int .i64 y.q0, .int .i64 y.q1, .int .i64 y.q2, .int .i64 y.l0, .int .i64 y.l1, .int .i64 y.l2, .string y.image, .int .i64 y.size] 25)).cell? ⟨b, off + k * 11, none⟩ = some (.string y.id) ∧ ((wd.alloc (.cells #[] 25)).alloc (.cells #[.string y.id, .int .i64 y.prio, .bool y.crit, .int .i64 y.q0, .int .i64 y.q1, .int .i64 y.q2, .int .i64 y.l0, .int .i64 y.l1, .int .i64 y.l2, .string y.image, .int .i64 y.size] 25)).cell? ⟨b, off + k * 11 + 1, none⟩ = some (.int .i64 y.prio) ∧ ((wd.alloc (.cells #[] 25)).alloc (.cells #[.string y.id, .int .i64 y.prio, .bool y.crit, .int .i64 y.q0, .int .i64 y.q1, .int .i64 y.q2, .int .i64 y.l0, .int .i64 y.l1, .int .i64 y.l2, .string y.image, .int .i64 y.size] 25)).cell? ⟨b, off + k * 11 + 2, none⟩ = some (.bool y.crit) ∧ ((wd.alloc (.cells #[] 25)).alloc (.cells #[.string y.id, .int .i64 y.prio, .bool y.crit, .int .i64 y.q0, .int .i64 y.q1, .int .i64 y.q2, .int .i64 y.l0, .int .i64 y.l1, .int .i64 y.l2, .string y.image, .int .i64 y.size] 25)).cell? ⟨b, off + k * 11 + 3, none⟩ = some (.int .i64 y.q0) ∧ ((wd.alloc (.cells #[] 25)).alloc (.cells #[.string y.id, .int .i64 y.prio, .bool y.crit, .int .i64 y.q0, .int .i64 y.q1, .int .i64 y.q2, .int .i64 y.l0, .int .i64 y.l1, .int .i64 y.l2, .string y.image, .int .i64 y.size] 25)).cell? ⟨b, off + k * 11 + 4, none⟩ = some (.int .i64 y.q1) ∧ ((wd.alloc (.cells #[] 25)).alloc (.cells #[.string y.id, .int .i64 y.prio, .bool y.crit, .int .i64 y.q0, .int .i64 y.q1, .int .i64 y.q2, .int .i64 y.l0, .int .i64 y.l1, .int .i64 y.l2, .string y.image, .int .i64 y.size] 25)).cell? ⟨b, off + k * 11 + 5, none⟩ = some (.int .i64 y.q2) ∧ ((wd.alloc (.cells #[] 25)).alloc (.cells #[.string y.id, .int .i64 y.prio, .bool y.crit, .int .i64 y.q0, .int .i64 y.q1, .int .i64 y.q2, .int .i64 y.l0, .int .i64 y.l1, .int .i64 y.l2, .string y.image, .int .i64 y.size] 25)).cell? ⟨b, off + k * 11 + 6, none⟩ = some (.int .i64 y.l0) ∧ ((wd.alloc (.cells #[] 25)).alloc (.cells #[.string y.id, .int .i64 y.prio, .bool y.crit, .int .i64 y.q0, .int .i64 y.q1, .int .i64 y.q2, .int .i64 y.l0, .int .i64 y.l1, .int .i64 y.l2, .string y.image, .int .i64 y.size] 25)).cell? ⟨b, off + k * 11 + 7, none⟩ = some (.int .i64 y.l1) ∧ ((wd.alloc (.cells #[] 25)).alloc (.cells #[.string y.id, .int .i64 y.prio, .bool y.crit, .int .i64 y.q0, .int .i64 y.q1, .int .i64 y.q2, .int .i64 y.l0, .int .i64 y.l1, .int .i64 y.l2, .string y.image, .int .i64 y.size] 25)).cell? ⟨b, off + k * 11 + 8, none⟩ = some (.int .i64 y.l2) ∧ ((wd.alloc (.cells #[] 25)).alloc (.cells #[.string y.id, .int .i64 y.prio, .bool y.crit, .int .i64 y.q0, .int .i64 y.q1, .int .i64 y.q2, .int .i64 y.l0, .int .i64 y.l1, .int .i64 y.l2, .string y.image, .int .i64 y.size] 25)).cell? ⟨b, off + k * 11 + 9, none⟩ = some (.string y.image) ∧ ((wd.alloc (.cells #[] 25)).alloc (.cells #[.string y.id, .int .i64 y.prio, .bool y.crit, .int .i64 y.q0, .int .i64 y.q1, .int .i64 y.q2, .int .i64 y.l0, .int .i64 y.l1, .int .i64 y.l2, .string y.image, .int .i64 y.size] 25)).cell? ⟨b, off + k * 11 + 10, none⟩ = some (.int .i64 y.size) from spCells HQ.out HRi.out HYK.out)
                        clear hK K
                        simp only [Act.put, List.setIfInBounds_toArray, List.set_cons_zero, List.set_cons_succ]
                        refine held_call 24 116 rfl rfl (by kernel_rfl) (by rfl) (fun K hK => ?_)
                        refine wp_app ((wd.alloc (.cells #[] 25)).alloc (.cells #[.string y.id, .int .i64 y.prio, .bool y.crit, .int .i64 y.q0, .int .i64 y.q1, .int .i64 y.q2, .int .i64 y.l0, .int .i64 y.l1, .int .i64 y.l2, .string y.image, .int .i64 y.size] 25)) elemP encP (.tmp 114) (.tmp 115) rfl wd.heap.size _ [] (by simp [Act.eval]) HOW.out As ST cs (by simp [Act.eval]) (HSd.out.below (HB.out.mono (by simp))) (by simp; omega) (by simp; omega) HB.out.size ?_
                        intro A5 c5 w5 ho hg _
                        have hb5 := HOW.out.belowGrown HB.out hg (Nat.le_refl _) HB.out.size
                        have HRW := Lib.hid (HRW.out.grownN hg (by simp [Value.ownBlock]))
                        have how : Own w5 wd.heap.size 25 encP (.slice A5 (ST).length c5) ST := by simpa using ho
                        have HOW := Lib.hid how
                        have HB := Lib.hid hb5
                        clear ho how hg hb5
                        have HQ := Lib.hid (HQd.out.below HB.out)
                        have HRi := Lib.hid (HRd.out.below HB.out)
                        simp only [List.length_nil, Nat.zero_add]
                        refine hK _ _ (spCells HQ.out HRi.out HYK.out) ?_
                        have hHeld := (show w5.cell? ⟨w.heap.size, 0, none⟩ = some (.int .i64 room.a) ∧ w5.cell? ⟨w.heap.size, 1, none⟩ = some (.int .i64 room.b) ∧ w5.cell? ⟨w.heap.size, 2, none⟩ = some (.int .i64 room.c) ∧ w5.cell? ⟨w.heap.size + 1, 0, none⟩ = some (.string p.id) ∧ w5.cell? ⟨w.heap.size + 1, 1, none⟩ = some (.int .i64 p.prio) ∧ w5.cell? ⟨w.heap.size + 1, 2, none⟩ = some (.bool p.crit) ∧ w5.cell? ⟨w.heap.size + 1, 3, none⟩ = some (.int .i64 p.q0) ∧ w5.cell? ⟨w.heap.size + 1, 4, none⟩ = some (.int .i64 p.q1) ∧ w5.cell? ⟨w.heap.size + 1, 5, none⟩ = some (.int .i64 p.q2) ∧ w5.cell? ⟨w.heap.size + 1, 6, none⟩ = some (.int .i64 p.l0) ∧ w5.cell? ⟨w.heap.size + 1, 7, none⟩ = some (.int .i64 p.l1) ∧ w5.cell? ⟨w.heap.size + 1, 8, none⟩ = some (.int .i64 p.l2) ∧ w5.cell? ⟨w.heap.size + 1, 9, none⟩ = some (.string p.image) ∧ w5.cell? ⟨w.heap.size + 1, 10, none⟩ = some (.int .i64 p.size) ∧ w5.cell? ⟨b, off + k * 11, none⟩ = some (.string y.id) ∧ w5.cell? ⟨b, off + k * 11 + 1, none⟩ = some (.int .i64 y.prio) ∧ w5.cell? ⟨b, off + k * 11 + 2, none⟩ = some (.bool y.crit) ∧ w5.cell? ⟨b, off + k * 11 + 3, none⟩ = some (.int .i64 y.q0) ∧ w5.cell? ⟨b, off + k * 11 + 4, none⟩ = some (.int .i64 y.q1) ∧ w5.cell? ⟨b, off + k * 11 + 5, none⟩ = some (.int .i64 y.q2) ∧ w5.cell? ⟨b, off + k * 11 + 6, none⟩ = some (.int .i64 y.l0) ∧ w5.cell? ⟨b, off + k * 11 + 7, none⟩ = some (.int .i64 y.l1) ∧ w5.cell? ⟨b, off + k * 11 + 8, none⟩ = some (.int .i64 y.l2) ∧ w5.cell? ⟨b, off + k * 11 + 9, none⟩ = some (.string y.image) ∧ w5.cell? ⟨b, off + k * 11 + 10, none⟩ = some (.int .i64 y.size) from spCells HQ.out HRi.out HYK.out)
                        clear hK K
                        simp only [Act.put, List.setIfInBounds_toArray, List.set_cons_zero, List.set_cons_succ]
                        refine held_call 30 122 rfl rfl (by kernel_rfl) (by rfl) (fun K hK => ?_)
                        refine wp_app (w5) elemP encP (.tmp 116) (.tmp 121) rfl wd.heap.size _ ST (by simp [Act.eval]) HOW.out _ [y] 1 (by simp [Act.eval]) HRW.out (by simp; omega) (by simp; omega) HB.out.size ?_
                        intro A7 c7 w7 ho hg _
                        have hb7 := HOW.out.belowGrown HB.out hg (Nat.le_refl _) HB.out.size
                        have HOW := Lib.hid ho
                        have HB := Lib.hid hb7
                        clear ho hg hb7
                        have HQ := Lib.hid (HQd.out.below HB.out)
                        have HRi := Lib.hid (HRd.out.below HB.out)
                        refine hK _ _ (spCells HQ.out HRi.out HYK.out) ?_
                        have hHeld := (show w7.cell? ⟨w.heap.size, 0, none⟩ = some (.int .i64 room.a) ∧ w7.cell? ⟨w.heap.size, 1, none⟩ = some (.int .i64 room.b) ∧ w7.cell? ⟨w.heap.size, 2, none⟩ = some (.int .i64 room.c) ∧ w7.cell? ⟨w.heap.size + 1, 0, none⟩ = some (.string p.id) ∧ w7.cell? ⟨w.heap.size + 1, 1, none⟩ = some (.int .i64 p.prio) ∧ w7.cell? ⟨w.heap.size + 1, 2, none⟩ = some (.bool p.crit) ∧ w7.cell? ⟨w.heap.size + 1, 3, none⟩ = some (.int .i64 p.q0) ∧ w7.cell? ⟨w.heap.size + 1, 4, none⟩ = some (.int .i64 p.q1) ∧ w7.cell? ⟨w.heap.size + 1, 5, none⟩ = some (.int .i64 p.q2) ∧ w7.cell? ⟨w.heap.size + 1, 6, none⟩ = some (.int .i64 p.l0) ∧ w7.cell? ⟨w.heap.size + 1, 7, none⟩ = some (.int .i64 p.l1) ∧ w7.cell? ⟨w.heap.size + 1, 8, none⟩ = some (.int .i64 p.l2) ∧ w7.cell? ⟨w.heap.size + 1, 9, none⟩ = some (.string p.image) ∧ w7.cell? ⟨w.heap.size + 1, 10, none⟩ = some (.int .i64 p.size) ∧ w7.cell? ⟨b, off + k * 11, none⟩ = some (.string y.id) ∧ w7.cell? ⟨b, off + k * 11 + 1, none⟩ = some (.int .i64 y.prio) ∧ w7.cell? ⟨b, off + k * 11 + 2, none⟩ = some (.bool y.crit) ∧ w7.cell? ⟨b, off + k * 11 + 3, none⟩ = some (.int .i64 y.q0) ∧ w7.cell? ⟨b, off + k * 11 + 4, none⟩ = some (.int .i64 y.q1) ∧ w7.cell? ⟨b, off + k * 11 + 5, none⟩ = some (.int .i64 y.q2) ∧ w7.cell? ⟨b, off + k * 11 + 6, none⟩ = some (.int .i64 y.l0) ∧ w7.cell? ⟨b, off + k * 11 + 7, none⟩ = some (.int .i64 y.l1) ∧ w7.cell? ⟨b, off + k * 11 + 8, none⟩ = some (.int .i64 y.l2) ∧ w7.cell? ⟨b, off + k * 11 + 9, none⟩ = some (.string y.image) ∧ w7.cell? ⟨b, off + k * 11 + 10, none⟩ = some (.int .i64 y.size) from spCells HQ.out HRi.out HYK.out)
                        clear hK K
                        simp only [Act.put, List.setIfInBounds_toArray, List.set_cons_zero, List.set_cons_succ]
                        refine held_call 31 123 rfl rfl (by kernel_rfl) (by rfl) (fun K hK => ?_)
                        go_simp
                        have HO7 := Lib.hid (show Rds w7 encP A7 (ST ++ [y]) from HOW.out.toRds)
                        go_at_call 18; with_reducible refine (fitsN (show ST.length + 1 = (ST ++ [y]).length by simp) HFY.out HO7.out HWY.out (by simp; omega)).mono ?_; rintro e w9 ⟨rfl, hb⟩
                        have HB := Lib.hid (below_rV HB.out hb)
                        have HQ := Lib.hid (HQd.out.below HB.out)
                        have HRi := Lib.hid (HRd.out.below HB.out)
                        clear hb
                        refine hK _ _ (spCells HQ.out HRi.out HYK.out) ?_
                        have hHeld := (show w9.cell? ⟨w.heap.size, 0, none⟩ = some (.int .i64 room.a) ∧ w9.cell? ⟨w.heap.size, 1, none⟩ = some (.int .i64 room.b) ∧ w9.cell? ⟨w.heap.size, 2, none⟩ = some (.int .i64 room.c) ∧ w9.cell? ⟨w.heap.size + 1, 0, none⟩ = some (.string p.id) ∧ w9.cell? ⟨w.heap.size + 1, 1, none⟩ = some (.int .i64 p.prio) ∧ w9.cell? ⟨w.heap.size + 1, 2, none⟩ = some (.bool p.crit) ∧ w9.cell? ⟨w.heap.size + 1, 3, none⟩ = some (.int .i64 p.q0) ∧ w9.cell? ⟨w.heap.size + 1, 4, none⟩ = some (.int .i64 p.q1) ∧ w9.cell? ⟨w.heap.size + 1, 5, none⟩ = some (.int .i64 p.q2) ∧ w9.cell? ⟨w.heap.size + 1, 6, none⟩ = some (.int .i64 p.l0) ∧ w9.cell? ⟨w.heap.size + 1, 7, none⟩ = some (.int .i64 p.l1) ∧ w9.cell? ⟨w.heap.size + 1, 8, none⟩ = some (.int .i64 p.l2) ∧ w9.cell? ⟨w.heap.size + 1, 9, none⟩ = some (.string p.image) ∧ w9.cell? ⟨w.heap.size + 1, 10, none⟩ = some (.int .i64 p.size) ∧ w9.cell? ⟨b, off + k * 11, none⟩ = some (.string y.id) ∧ w9.cell? ⟨b, off + k * 11 + 1, none⟩ = some (.int .i64 y.prio) ∧ w9.cell? ⟨b, off + k * 11 + 2, none⟩ = some (.bool y.crit) ∧ w9.cell? ⟨b, off + k * 11 + 3, none⟩ = some (.int .i64 y.q0) ∧ w9.cell? ⟨b, off + k * 11 + 4, none⟩ = some (.int .i64 y.q1) ∧ w9.cell? ⟨b, off + k * 11 + 5, none⟩ = some (.int .i64 y.q2) ∧ w9.cell? ⟨b, off + k * 11 + 6, none⟩ = some (.int .i64 y.l0) ∧ w9.cell? ⟨b, off + k * 11 + 7, none⟩ = some (.int .i64 y.l1) ∧ w9.cell? ⟨b, off + k * 11 + 8, none⟩ = some (.int .i64 y.l2) ∧ w9.cell? ⟨b, off + k * 11 + 9, none⟩ = some (.string y.image) ∧ w9.cell? ⟨b, off + k * 11 + 10, none⟩ = some (.int .i64 y.size) from spCells HQ.out HRi.out HYK.out)
                        clear hK K
                        simp only [Act.put, List.setIfInBounds_toArray, List.set_cons_zero, List.set_cons_succ]
                        refine held_take 32 124 (.bool true) rfl rfl (by kernel_rfl) (by kernel_rfl) (by kernel_rfl) (fun _ _ _ h => h) (by rfl) (by intro w' hSw; (try dsimp only at hSw); go_simp; (try (with_reducible rfl))) (by assumption) ?_
                        simp only [Act.put, List.setIfInBounds_toArray, List.set_cons_zero, List.set_cons_succ]
                        refine held_take 33 125 (.bool true) rfl rfl (by kernel_rfl) (by kernel_rfl) (by kernel_rfl) (fun _ _ _ h => h) (by rfl) (by intro w' hSw; (try dsimp only at hSw); go_simp; (try (with_reducible rfl))) (by assumption) ?_
                        simp only [Act.put, List.setIfInBounds_toArray, List.set_cons_zero, List.set_cons_succ]
                        refine held_take 34 11 (.bool true) rfl rfl (by kernel_rfl) (by kernel_rfl) (by kernel_rfl) (fun _ _ _ h => h) (by rfl) (by intro w' hSw; (try dsimp only at hSw); go_simp; (try (with_reducible rfl))) (by assumption) ?_
                        simp only [Act.put, List.setIfInBounds_toArray, List.set_cons_zero, List.set_cons_succ]
                        refine wpAnyH_done (by kernel_rfl) ?_ _
                        clear hHeld
                        go_wp2_with fail
                        go_roundw
                        case rel => exact ⟨k + 1, by omega, HN.out, by go_num, below_rV HQB.out HB.out⟩
                        case measure => simp [intOf]; omega
                    · go_simp
                      have hrw := Rds.made (wd) encP [y] 25 #[.string y.id, .int .i64 y.prio, .bool y.crit, .int .i64 y.q0, .int .i64 y.q1, .int .i64 y.q2, .int .i64 y.l0, .int .i64 y.l1, .int .i64 y.l2, .string y.image, .int .i64 y.size] (0, 0) rfl
                      have HRW := Lib.hid hrw
                      clear hrw
                      have HB := Lib.hid (HB.out.alloc HB.out.size (.cells #[.string y.id, .int .i64 y.prio, .bool y.crit, .int .i64 y.q0, .int .i64 y.q1, .int .i64 y.q2, .int .i64 y.l0, .int .i64 y.l1, .int .i64 y.l2, .string y.image, .int .i64 y.size] 25))
                      have HQ := Lib.hid (HQd.out.below HB.out)
                      have HRi := Lib.hid (HRd.out.below HB.out)
                      refine hK _ _ (spCells HQ.out HRi.out HYK.out) ?_
                      have hHeld := (show ((wd).alloc (.cells #[.string y.id, .int .i64 y.prio, .bool y.crit, .int .i64 y.q0, .int .i64 y.q1, .int .i64 y.q2, .int .i64 y.l0, .int .i64 y.l1, .int .i64 y.l2, .string y.image, .int .i64 y.size] 25)).cell? ⟨w.heap.size, 0, none⟩ = some (.int .i64 room.a) ∧ ((wd).alloc (.cells #[.string y.id, .int .i64 y.prio, .bool y.crit, .int .i64 y.q0, .int .i64 y.q1, .int .i64 y.q2, .int .i64 y.l0, .int .i64 y.l1, .int .i64 y.l2, .string y.image, .int .i64 y.size] 25)).cell? ⟨w.heap.size, 1, none⟩ = some (.int .i64 room.b) ∧ ((wd).alloc (.cells #[.string y.id, .int .i64 y.prio, .bool y.crit, .int .i64 y.q0, .int .i64 y.q1, .int .i64 y.q2, .int .i64 y.l0, .int .i64 y.l1, .int .i64 y.l2, .string y.image, .int .i64 y.size] 25)).cell? ⟨w.heap.size, 2, none⟩ = some (.int .i64 room.c) ∧ ((wd).alloc (.cells #[.string y.id, .int .i64 y.prio, .bool y.crit, .int .i64 y.q0, .int .i64 y.q1, .int .i64 y.q2, .int .i64 y.l0, .int .i64 y.l1, .int .i64 y.l2, .string y.image, .int .i64 y.size] 25)).cell? ⟨w.heap.size + 1, 0, none⟩ = some (.string p.id) ∧ ((wd).alloc (.cells #[.string y.id, .int .i64 y.prio, .bool y.crit, .int .i64 y.q0, .int .i64 y.q1, .int .i64 y.q2, .int .i64 y.l0, .int .i64 y.l1, .int .i64 y.l2, .string y.image, .int .i64 y.size] 25)).cell? ⟨w.heap.size + 1, 1, none⟩ = some (.int .i64 p.prio) ∧ ((wd).alloc (.cells #[.string y.id, .int .i64 y.prio, .bool y.crit, .int .i64 y.q0, .int .i64 y.q1, .int .i64 y.q2, .int .i64 y.l0, .int .i64 y.l1, .int .i64 y.l2, .string y.image, .int .i64 y.size] 25)).cell? ⟨w.heap.size + 1, 2, none⟩ = some (.bool p.crit) ∧ ((wd).alloc (.cells #[.string y.id, .int .i64 y.prio, .bool y.crit, .int .i64 y.q0, .int .i64 y.q1, .int .i64 y.q2, .int .i64 y.l0, .int .i64 y.l1, .int .i64 y.l2, .string y.image, .int .i64 y.size] 25)).cell? ⟨w.heap.size + 1, 3, none⟩ = some (.int .i64 p.q0) ∧ ((wd).alloc (.cells #[.string y.id, .int .i64 y.prio, .bool y.crit, .int .i64 y.q0, .int .i64 y.q1, .int .i64 y.q2, .int .i64 y.l0, .int .i64 y.l1, .int .i64 y.l2, .string y.image, .int .i64 y.size] 25)).cell? ⟨w.heap.size + 1, 4, none⟩ = some (.int .i64 p.q1) ∧ ((wd).alloc (.cells #[.string y.id, .int .i64 y.prio, .bool y.crit, .int .i64 y.q0, .int .i64 y.q1, .int .i64 y.q2, .int .i64 y.l0, .int .i64 y.l1, .int .i64 y.l2, .string y.image, .int .i64 y.size] 25)).cell? ⟨w.heap.size + 1, 5, none⟩ = some (.int .i64 p.q2) ∧ ((wd).alloc (.cells #[.string y.id, .int .i64 y.prio, .bool y.crit, .int .i64 y.q0, .int .i64 y.q1, .int .i64 y.q2, .int .i64 y.l0, .int .i64 y.l1, .int .i64 y.l2, .string y.image, .int .i64 y.size] 25)).cell? ⟨w.heap.size + 1, 6, none⟩ = some (.int .i64 p.l0) ∧ ((wd).alloc (.cells #[.string y.id, .int .i64 y.prio, .bool y.crit, .int .i64 y.q0, .int .i64 y.q1, .int .i64 y.q2, .int .i64 y.l0, .int .i64 y.l1, .int .i64 y.l2, .string y.image, .int .i64 y.size] 25)).cell? ⟨w.heap.size + 1, 7, none⟩ = some (.int .i64 p.l1) ∧ ((wd).alloc (.cells #[.string y.id, .int .i64 y.prio, .bool y.crit, .int .i64 y.q0, .int .i64 y.q1, .int .i64 y.q2, .int .i64 y.l0, .int .i64 y.l1, .int .i64 y.l2, .string y.image, .int .i64 y.size] 25)).cell? ⟨w.heap.size + 1, 8, none⟩ = some (.int .i64 p.l2) ∧ ((wd).alloc (.cells #[.string y.id, .int .i64 y.prio, .bool y.crit, .int .i64 y.q0, .int .i64 y.q1, .int .i64 y.q2, .int .i64 y.l0, .int .i64 y.l1, .int .i64 y.l2, .string y.image, .int .i64 y.size] 25)).cell? ⟨w.heap.size + 1, 9, none⟩ = some (.string p.image) ∧ ((wd).alloc (.cells #[.string y.id, .int .i64 y.prio, .bool y.crit, .int .i64 y.q0, .int .i64 y.q1, .int .i64 y.q2, .int .i64 y.l0, .int .i64 y.l1, .int .i64 y.l2, .string y.image, .int .i64 y.size] 25)).cell? ⟨w.heap.size + 1, 10, none⟩ = some (.int .i64 p.size) ∧ ((wd).alloc (.cells #[.string y.id, .int .i64 y.prio, .bool y.crit, .int .i64 y.q0, .int .i64 y.q1, .int .i64 y.q2, .int .i64 y.l0, .int .i64 y.l1, .int .i64 y.l2, .string y.image, .int .i64 y.size] 25)).cell? ⟨b, off + k * 11, none⟩ = some (.string y.id) ∧ ((wd).alloc (.cells #[.string y.id, .int .i64 y.prio, .bool y.crit, .int .i64 y.q0, .int .i64 y.q1, .int .i64 y.q2, .int .i64 y.l0, .int .i64 y.l1, .int .i64 y.l2, .string y.image, .int .i64 y.size] 25)).cell? ⟨b, off + k * 11 + 1, none⟩ = some (.int .i64 y.prio) ∧ ((wd).alloc (.cells #[.string y.id, .int .i64 y.prio, .bool y.crit, .int .i64 y.q0, .int .i64 y.q1, .int .i64 y.q2, .int .i64 y.l0, .int .i64 y.l1, .int .i64 y.l2, .string y.image, .int .i64 y.size] 25)).cell? ⟨b, off + k * 11 + 2, none⟩ = some (.bool y.crit) ∧ ((wd).alloc (.cells #[.string y.id, .int .i64 y.prio, .bool y.crit, .int .i64 y.q0, .int .i64 y.q1, .int .i64 y.q2, .int .i64 y.l0, .int .i64 y.l1, .int .i64 y.l2, .string y.image, .int .i64 y.size] 25)).cell? ⟨b, off + k * 11 + 3, none⟩ = some (.int .i64 y.q0) ∧ ((wd).alloc (.cells #[.string y.id, .int .i64 y.prio, .bool y.crit, .int .i64 y.q0, .int .i64 y.q1, .int .i64 y.q2, .int .i64 y.l0, .int .i64 y.l1, .int .i64 y.l2, .string y.image, .int .i64 y.size] 25)).cell? ⟨b, off + k * 11 + 4, none⟩ = some (.int .i64 y.q1) ∧ ((wd).alloc (.cells #[.string y.id, .int .i64 y.prio, .bool y.crit, .int .i64 y.q0, .int .i64 y.q1, .int .i64 y.q2, .int .i64 y.l0, .int .i64 y.l1, .int .i64 y.l2, .string y.image, .int .i64 y.size] 25)).cell? ⟨b, off + k * 11 + 5, none⟩ = some (.int .i64 y.q2) ∧ ((wd).alloc (.cells #[.string y.id, .int .i64 y.prio, .bool y.crit, .int .i64 y.q0, .int .i64 y.q1, .int .i64 y.q2, .int .i64 y.l0, .int .i64 y.l1, .int .i64 y.l2, .string y.image, .int .i64 y.size] 25)).cell? ⟨b, off + k * 11 + 6, none⟩ = some (.int .i64 y.l0) ∧ ((wd).alloc (.cells #[.string y.id, .int .i64 y.prio, .bool y.crit, .int .i64 y.q0, .int .i64 y.q1, .int .i64 y.q2, .int .i64 y.l0, .int .i64 y.l1, .int .i64 y.l2, .string y.image, .int .i64 y.size] 25)).cell? ⟨b, off + k * 11 + 7, none⟩ = some (.int .i64 y.l1) ∧ ((wd).alloc (.cells #[.string y.id, .int .i64 y.prio, .bool y.crit, .int .i64 y.q0, .int .i64 y.q1, .int .i64 y.q2, .int .i64 y.l0, .int .i64 y.l1, .int .i64 y.l2, .string y.image, .int .i64 y.size] 25)).cell? ⟨b, off + k * 11 + 8, none⟩ = some (.int .i64 y.l2) ∧ ((wd).alloc (.cells #[.string y.id, .int .i64 y.prio, .bool y.crit, .int .i64 y.q0, .int .i64 y.q1, .int .i64 y.q2, .int .i64 y.l0, .int .i64 y.l1, .int .i64 y.l2, .string y.image, .int .i64 y.size] 25)).cell? ⟨b, off + k * 11 + 9, none⟩ = some (.string y.image) ∧ ((wd).alloc (.cells #[.string y.id, .int .i64 y.prio, .bool y.crit, .int .i64 y.q0, .int .i64 y.q1, .int .i64 y.q2, .int .i64 y.l0, .int .i64 y.l1, .int .i64 y.l2, .string y.image, .int .i64 y.size] 25)).cell? ⟨b, off + k * 11 + 10, none⟩ = some (.int .i64 y.size) from spCells HQ.out HRi.out HYK.out)
                      clear hK K
                      simp only [Act.put, List.setIfInBounds_toArray, List.set_cons_zero, List.set_cons_succ]
                      refine held_call 22 114 rfl rfl (by kernel_rfl) (by rfl) (fun K hK => ?_)
                      go_simp
                      have how := Own.made (wd.alloc (.cells #[.string y.id, .int .i64 y.prio, .bool y.crit, .int .i64 y.q0, .int .i64 y.q1, .int .i64 y.q2, .int .i64 y.l0, .int .i64 y.l1, .int .i64 y.l2, .string y.image, .int .i64 y.size] 25)) wd.heap.size 25 encP [] #[] rfl HB.out.size (by simp)
                      rw [show (wd.alloc (.cells #[.string y.id, .int .i64 y.prio, .bool y.crit, .int .i64 y.q0, .int .i64 y.q1, .int .i64 y.q2, .int .i64 y.l0, .int .i64 y.l1, .int .i64 y.l2, .string y.image, .int .i64 y.size] 25)).heap.size = wd.heap.size + 1 from by simp] at how
                      have HRW := Lib.hid (HRW.out.alloc (.cells #[] 25))
                      have HOW := Lib.hid how
                      clear how
                      have HB := Lib.hid (HB.out.alloc HB.out.size (.cells #[] 25))
                      have HQ := Lib.hid (HQd.out.below HB.out)
                      have HRi := Lib.hid (HRd.out.below HB.out)
                      refine hK _ _ (spCells HQ.out HRi.out HYK.out) ?_
                      have hHeld := (show ((wd.alloc (.cells #[.string y.id, .int .i64 y.prio, .bool y.crit, .int .i64 y.q0, .int .i64 y.q1, .int .i64 y.q2, .int .i64 y.l0, .int .i64 y.l1, .int .i64 y.l2, .string y.image, .int .i64 y.size] 25)).alloc (.cells #[] 25)).cell? ⟨w.heap.size, 0, none⟩ = some (.int .i64 room.a) ∧ ((wd.alloc (.cells #[.string y.id, .int .i64 y.prio, .bool y.crit, .int .i64 y.q0, .int .i64 y.q1, .int .i64 y.q2, .int .i64 y.l0, .int .i64 y.l1, .int .i64 y.l2, .string y.image, .int .i64 y.size] 25)).alloc (.cells #[] 25)).cell? ⟨w.heap.size, 1, none⟩ = some (.int .i64 room.b) ∧ ((wd.alloc (.cells #[.string y.id, .int .i64 y.prio, .bool y.crit, .int .i64 y.q0, .int .i64 y.q1, .int .i64 y.q2, .int .i64 y.l0, .int .i64 y.l1, .int .i64 y.l2, .string y.image, .int .i64 y.size] 25)).alloc (.cells #[] 25)).cell? ⟨w.heap.size, 2, none⟩ = some (.int .i64 room.c) ∧ ((wd.alloc (.cells #[.string y.id, .int .i64 y.prio, .bool y.crit, .int .i64 y.q0, .int .i64 y.q1, .int .i64 y.q2, .int .i64 y.l0, .int .i64 y.l1, .int .i64 y.l2, .string y.image, .int .i64 y.size] 25)).alloc (.cells #[] 25)).cell? ⟨w.heap.size + 1, 0, none⟩ = some (.string p.id) ∧ ((wd.alloc (.cells #[.string y.id, .int .i64 y.prio, .bool y.crit, .int .i64 y.q0, .int .i64 y.q1, .int .i64 y.q2, .int .i64 y.l0, .int .i64 y.l1, .int .i64 y.l2, .string y.image, .int .i64 y.size] 25)).alloc (.cells #[] 25)).cell? ⟨w.heap.size + 1, 1, none⟩ = some (.int .i64 p.prio) ∧ ((wd.alloc (.cells #[.string y.id, .int .i64 y.prio, .bool y.crit, .int .i64 y.q0, .int .i64 y.q1, .int .i64 y.q2, .int .i64 y.l0, .int .i64 y.l1, .int .i64 y.l2, .string y.image, .int .i64 y.size] 25)).alloc (.cells #[] 25)).cell? ⟨w.heap.size + 1, 2, none⟩ = some (.bool p.crit) ∧ ((wd.alloc (.cells #[.string y.id, .int .i64 y.prio, .bool y.crit, .int .i64 y.q0, .int .i64 y.q1, .int .i64 y.q2, .int .i64 y.l0, .int .i64 y.l1, .int .i64 y.l2, .string y.image, .int .i64 y.size] 25)).alloc (.cells #[] 25)).cell? ⟨w.heap.size + 1, 3, none⟩ = some (.int .i64 p.q0) ∧ ((wd.alloc (.cells #[.string y.id, .int .i64 y.prio, .bool y.crit, .int .i64 y.q0, .int .i64 y.q1, .int .i64 y.q2, .int .i64 y.l0, .int .i64 y.l1, .int .i64 y.l2, .string y.image, .int .i64 y.size] 25)).alloc (.cells #[] 25)).cell? ⟨w.heap.size + 1, 4, none⟩ = some (.int .i64 p.q1) ∧ ((wd.alloc (.cells #[.string y.id, .int .i64 y.prio, .bool y.crit, .int .i64 y.q0, .int .i64 y.q1, .int .i64 y.q2, .int .i64 y.l0, .int .i64 y.l1, .int .i64 y.l2, .string y.image, .int .i64 y.size] 25)).alloc (.cells #[] 25)).cell? ⟨w.heap.size + 1, 5, none⟩ = some (.int .i64 p.q2) ∧ ((wd.alloc (.cells #[.string y.id, .int .i64 y.prio, .bool y.crit, .int .i64 y.q0, .int .i64 y.q1, .int .i64 y.q2, .int .i64 y.l0, .int .i64 y.l1, .int .i64 y.l2, .string y.image, .int .i64 y.size] 25)).alloc (.cells #[] 25)).cell? ⟨w.heap.size + 1, 6, none⟩ = some (.int .i64 p.l0) ∧ ((wd.alloc (.cells #[.string y.id, .int .i64 y.prio, .bool y.crit, .int .i64 y.q0, .int .i64 y.q1, .int .i64 y.q2, .int .i64 y.l0, .int .i64 y.l1, .int .i64 y.l2, .string y.image, .int .i64 y.size] 25)).alloc (.cells #[] 25)).cell? ⟨w.heap.size + 1, 7, none⟩ = some (.int .i64 p.l1) ∧ ((wd.alloc (.cells #[.string y.id, .int .i64 y.prio, .bool y.crit, .int .i64 y.q0, .int .i64 y.q1, .int .i64 y.q2, .int .i64 y.l0, .int .i64 y.l1, .int .i64 y.l2, .string y.image, .int .i64 y.size] 25)).alloc (.cells #[] 25)).cell? ⟨w.heap.size + 1, 8, none⟩ = some (.int .i64 p.l2) ∧ ((wd.alloc (.cells #[.string y.id, .int .i64 y.prio, .bool y.crit, .int .i64 y.q0, .int .i64 y.q1, .int .i64 y.q2, .int .i64 y.l0, .int .i64 y.l1, .int .i64 y.l2, .string y.image, .int .i64 y.size] 25)).alloc (.cells #[] 25)).cell? ⟨w.heap.size + 1, 9, none⟩ = some (.string p.image) ∧ ((wd.alloc (.cells #[.string y.id, .int .i64 y.prio, .bool y.crit, .int .i64 y.q0, .int .i64 y.q1, .int .i64 y.q2, .int .i64 y.l0, .int .i64 y.l1, .int .i64 y.l2, .string y.image, .int .i64 y.size] 25)).alloc (.cells #[] 25)).cell? ⟨w.heap.size + 1, 10, none⟩ = some (.int .i64 p.size) ∧ ((wd.alloc (.cells #[.string y.id, .int .i64 y.prio, .bool y.crit, .int .i64 y.q0, .int .i64 y.q1, .int .i64 y.q2, .int .i64 y.l0, .int .i64 y.l1, .int .i64 y.l2, .string y.image, .int .i64 y.size] 25)).alloc (.cells #[] 25)).cell? ⟨b, off + k * 11, none⟩ = some (.string y.id) ∧ ((wd.alloc (.cells #[.string y.id, .int .i64 y.prio, .bool y.crit, .int .i64 y.q0, .int .i64 y.q1, .int .i64 y.q2, .int .i64 y.l0, .int .i64 y.l1, .int .i64 y.l2, .string y.image, .int .i64 y.size] 25)).alloc (.cells #[] 25)).cell? ⟨b, off + k * 11 + 1, none⟩ = some (.int .i64 y.prio) ∧ ((wd.alloc (.cells #[.string y.id, .int .i64 y.prio, .bool y.crit, .int .i64 y.q0, .int .i64 y.q1, .int .i64 y.q2, .int .i64 y.l0, .int .i64 y.l1, .int .i64 y.l2, .string y.image, .int .i64 y.size] 25)).alloc (.cells #[] 25)).cell? ⟨b, off + k * 11 + 2, none⟩ = some (.bool y.crit) ∧ ((wd.alloc (.cells #[.string y.id, .int .i64 y.prio, .bool y.crit, .int .i64 y.q0, .int .i64 y.q1, .int .i64 y.q2, .int .i64 y.l0, .int .i64 y.l1, .int .i64 y.l2, .string y.image, .int .i64 y.size] 25)).alloc (.cells #[] 25)).cell? ⟨b, off + k * 11 + 3, none⟩ = some (.int .i64 y.q0) ∧ ((wd.alloc (.cells #[.string y.id, .int .i64 y.prio, .bool y.crit, .int .i64 y.q0, .int .i64 y.q1, .int .i64 y.q2, .int .i64 y.l0, .int .i64 y.l1, .int .i64 y.l2, .string y.image, .int .i64 y.size] 25)).alloc (.cells #[] 25)).cell? ⟨b, off + k * 11 + 4, none⟩ = some (.int .i64 y.q1) ∧ ((wd.alloc (.cells #[.string y.id, .int .i64 y.prio, .bool y.crit, .int .i64 y.q0, .int .i64 y.q1, .int .i64 y.q2, .int .i64 y.l0, .int .i64 y.l1, .int .i64 y.l2, .string y.image, .int .i64 y.size] 25)).alloc (.cells #[] 25)).cell? ⟨b, off + k * 11 + 5, none⟩ = some (.int .i64 y.q2) ∧ ((wd.alloc (.cells #[.string y.id, .int .i64 y.prio, .bool y.crit, .int .i64 y.q0, .int .i64 y.q1, .int .i64 y.q2, .int .i64 y.l0, .int .i64 y.l1, .int .i64 y.l2, .string y.image, .int .i64 y.size] 25)).alloc (.cells #[] 25)).cell? ⟨b, off + k * 11 + 6, none⟩ = some (.int .i64 y.l0) ∧ ((wd.alloc (.cells #[.string y.id, .int .i64 y.prio, .bool y.crit, .int .i64 y.q0, .int .i64 y.q1, .int .i64 y.q2, .int .i64 y.l0, .int .i64 y.l1, .int .i64 y.l2, .string y.image, .int .i64 y.size] 25)).alloc (.cells #[] 25)).cell? ⟨b, off + k * 11 + 7, none⟩ = some (.int .i64 y.l1) ∧ ((wd.alloc (.cells #[.string y.id, .int .i64 y.prio, .bool y.crit, .int .i64 y.q0, .int .i64 y.q1, .int .i64 y.q2, .int .i64 y.l0, .int .i64 y.l1, .int .i64 y.l2, .string y.image, .int .i64 y.size] 25)).alloc (.cells #[] 25)).cell? ⟨b, off + k * 11 + 8, none⟩ = some (.int .i64 y.l2) ∧ ((wd.alloc (.cells #[.string y.id, .int .i64 y.prio, .bool y.crit, .int .i64 y.q0, .int .i64 y.q1, .int .i64 y.q2, .int .i64 y.l0, .int .i64 y.l1, .int .i64 y.l2, .string y.image, .int .i64 y.size] 25)).alloc (.cells #[] 25)).cell? ⟨b, off + k * 11 + 9, none⟩ = some (.string y.image) ∧ ((wd.alloc (.cells #[.string y.id, .int .i64 y.prio, .bool y.crit, .int .i64 y.q0, .int .i64 y.q1, .int .i64 y.q2, .int .i64 y.l0, .int .i64 y.l1, .int .i64 y.l2, .string y.image, .int .i64 y.size] 25)).alloc (.cells #[] 25)).cell? ⟨b, off + k * 11 + 10, none⟩ = some (.int .i64 y.size) from spCells HQ.out HRi.out HYK.out)
                      clear hK K
                      simp only [Act.put, List.setIfInBounds_toArray, List.set_cons_zero, List.set_cons_succ]
                      refine held_call 24 116 rfl rfl (by kernel_rfl) (by rfl) (fun K hK => ?_)
                      refine wp_app ((wd.alloc (.cells #[.string y.id, .int .i64 y.prio, .bool y.crit, .int .i64 y.q0, .int .i64 y.q1, .int .i64 y.q2, .int .i64 y.l0, .int .i64 y.l1, .int .i64 y.l2, .string y.image, .int .i64 y.size] 25)).alloc (.cells #[] 25)) elemP encP (.tmp 114) (.tmp 115) rfl wd.heap.size _ [] (by simp [Act.eval]) HOW.out As ST cs (by simp [Act.eval]) (HSd.out.below (HB.out.mono (by simp))) (by simp; omega) (by simp; omega) HB.out.size ?_
                      intro A5 c5 w5 ho hg _
                      have hb5 := HOW.out.belowGrown HB.out hg (Nat.le_refl _) HB.out.size
                      have HRW := Lib.hid (HRW.out.grownN hg (by simp [Value.ownBlock]))
                      have how : Own w5 wd.heap.size 25 encP (.slice A5 (ST).length c5) ST := by simpa using ho
                      have HOW := Lib.hid how
                      have HB := Lib.hid hb5
                      clear ho how hg hb5
                      have HQ := Lib.hid (HQd.out.below HB.out)
                      have HRi := Lib.hid (HRd.out.below HB.out)
                      simp only [List.length_nil, Nat.zero_add]
                      refine hK _ _ (spCells HQ.out HRi.out HYK.out) ?_
                      have hHeld := (show w5.cell? ⟨w.heap.size, 0, none⟩ = some (.int .i64 room.a) ∧ w5.cell? ⟨w.heap.size, 1, none⟩ = some (.int .i64 room.b) ∧ w5.cell? ⟨w.heap.size, 2, none⟩ = some (.int .i64 room.c) ∧ w5.cell? ⟨w.heap.size + 1, 0, none⟩ = some (.string p.id) ∧ w5.cell? ⟨w.heap.size + 1, 1, none⟩ = some (.int .i64 p.prio) ∧ w5.cell? ⟨w.heap.size + 1, 2, none⟩ = some (.bool p.crit) ∧ w5.cell? ⟨w.heap.size + 1, 3, none⟩ = some (.int .i64 p.q0) ∧ w5.cell? ⟨w.heap.size + 1, 4, none⟩ = some (.int .i64 p.q1) ∧ w5.cell? ⟨w.heap.size + 1, 5, none⟩ = some (.int .i64 p.q2) ∧ w5.cell? ⟨w.heap.size + 1, 6, none⟩ = some (.int .i64 p.l0) ∧ w5.cell? ⟨w.heap.size + 1, 7, none⟩ = some (.int .i64 p.l1) ∧ w5.cell? ⟨w.heap.size + 1, 8, none⟩ = some (.int .i64 p.l2) ∧ w5.cell? ⟨w.heap.size + 1, 9, none⟩ = some (.string p.image) ∧ w5.cell? ⟨w.heap.size + 1, 10, none⟩ = some (.int .i64 p.size) ∧ w5.cell? ⟨b, off + k * 11, none⟩ = some (.string y.id) ∧ w5.cell? ⟨b, off + k * 11 + 1, none⟩ = some (.int .i64 y.prio) ∧ w5.cell? ⟨b, off + k * 11 + 2, none⟩ = some (.bool y.crit) ∧ w5.cell? ⟨b, off + k * 11 + 3, none⟩ = some (.int .i64 y.q0) ∧ w5.cell? ⟨b, off + k * 11 + 4, none⟩ = some (.int .i64 y.q1) ∧ w5.cell? ⟨b, off + k * 11 + 5, none⟩ = some (.int .i64 y.q2) ∧ w5.cell? ⟨b, off + k * 11 + 6, none⟩ = some (.int .i64 y.l0) ∧ w5.cell? ⟨b, off + k * 11 + 7, none⟩ = some (.int .i64 y.l1) ∧ w5.cell? ⟨b, off + k * 11 + 8, none⟩ = some (.int .i64 y.l2) ∧ w5.cell? ⟨b, off + k * 11 + 9, none⟩ = some (.string y.image) ∧ w5.cell? ⟨b, off + k * 11 + 10, none⟩ = some (.int .i64 y.size) from spCells HQ.out HRi.out HYK.out)
                      clear hK K
                      simp only [Act.put, List.setIfInBounds_toArray, List.set_cons_zero, List.set_cons_succ]
                      refine held_call 30 122 rfl rfl (by kernel_rfl) (by rfl) (fun K hK => ?_)
                      refine wp_app (w5) elemP encP (.tmp 116) (.tmp 121) rfl wd.heap.size _ ST (by simp [Act.eval]) HOW.out _ [y] 1 (by simp [Act.eval]) HRW.out (by simp; omega) (by simp; omega) HB.out.size ?_
                      intro A7 c7 w7 ho hg _
                      have hb7 := HOW.out.belowGrown HB.out hg (Nat.le_refl _) HB.out.size
                      have HOW := Lib.hid ho
                      have HB := Lib.hid hb7
                      clear ho hg hb7
                      have HQ := Lib.hid (HQd.out.below HB.out)
                      have HRi := Lib.hid (HRd.out.below HB.out)
                      refine hK _ _ (spCells HQ.out HRi.out HYK.out) ?_
                      have hHeld := (show w7.cell? ⟨w.heap.size, 0, none⟩ = some (.int .i64 room.a) ∧ w7.cell? ⟨w.heap.size, 1, none⟩ = some (.int .i64 room.b) ∧ w7.cell? ⟨w.heap.size, 2, none⟩ = some (.int .i64 room.c) ∧ w7.cell? ⟨w.heap.size + 1, 0, none⟩ = some (.string p.id) ∧ w7.cell? ⟨w.heap.size + 1, 1, none⟩ = some (.int .i64 p.prio) ∧ w7.cell? ⟨w.heap.size + 1, 2, none⟩ = some (.bool p.crit) ∧ w7.cell? ⟨w.heap.size + 1, 3, none⟩ = some (.int .i64 p.q0) ∧ w7.cell? ⟨w.heap.size + 1, 4, none⟩ = some (.int .i64 p.q1) ∧ w7.cell? ⟨w.heap.size + 1, 5, none⟩ = some (.int .i64 p.q2) ∧ w7.cell? ⟨w.heap.size + 1, 6, none⟩ = some (.int .i64 p.l0) ∧ w7.cell? ⟨w.heap.size + 1, 7, none⟩ = some (.int .i64 p.l1) ∧ w7.cell? ⟨w.heap.size + 1, 8, none⟩ = some (.int .i64 p.l2) ∧ w7.cell? ⟨w.heap.size + 1, 9, none⟩ = some (.string p.image) ∧ w7.cell? ⟨w.heap.size + 1, 10, none⟩ = some (.int .i64 p.size) ∧ w7.cell? ⟨b, off + k * 11, none⟩ = some (.string y.id) ∧ w7.cell? ⟨b, off + k * 11 + 1, none⟩ = some (.int .i64 y.prio) ∧ w7.cell? ⟨b, off + k * 11 + 2, none⟩ = some (.bool y.crit) ∧ w7.cell? ⟨b, off + k * 11 + 3, none⟩ = some (.int .i64 y.q0) ∧ w7.cell? ⟨b, off + k * 11 + 4, none⟩ = some (.int .i64 y.q1) ∧ w7.cell? ⟨b, off + k * 11 + 5, none⟩ = some (.int .i64 y.q2) ∧ w7.cell? ⟨b, off + k * 11 + 6, none⟩ = some (.int .i64 y.l0) ∧ w7.cell? ⟨b, off + k * 11 + 7, none⟩ = some (.int .i64 y.l1) ∧ w7.cell? ⟨b, off + k * 11 + 8, none⟩ = some (.int .i64 y.l2) ∧ w7.cell? ⟨b, off + k * 11 + 9, none⟩ = some (.string y.image) ∧ w7.cell? ⟨b, off + k * 11 + 10, none⟩ = some (.int .i64 y.size) from spCells HQ.out HRi.out HYK.out)
                      clear hK K
                      simp only [Act.put, List.setIfInBounds_toArray, List.set_cons_zero, List.set_cons_succ]
                      refine held_call 31 123 rfl rfl (by kernel_rfl) (by rfl) (fun K hK => ?_)
                      go_simp
                      have HO7 := Lib.hid (show Rds w7 encP A7 (ST ++ [y]) from HOW.out.toRds)
                      go_at_call 18; with_reducible refine (fitsN (show ST.length + 1 = (ST ++ [y]).length by simp) HFY.out HO7.out HWY.out (by simp; omega)).mono ?_; rintro e w9 ⟨rfl, hb⟩
                      have HB := Lib.hid (below_rV HB.out hb)
                      have HQ := Lib.hid (HQd.out.below HB.out)
                      have HRi := Lib.hid (HRd.out.below HB.out)
                      clear hb
                      refine hK _ _ (spCells HQ.out HRi.out HYK.out) ?_
                      have hHeld := (show w9.cell? ⟨w.heap.size, 0, none⟩ = some (.int .i64 room.a) ∧ w9.cell? ⟨w.heap.size, 1, none⟩ = some (.int .i64 room.b) ∧ w9.cell? ⟨w.heap.size, 2, none⟩ = some (.int .i64 room.c) ∧ w9.cell? ⟨w.heap.size + 1, 0, none⟩ = some (.string p.id) ∧ w9.cell? ⟨w.heap.size + 1, 1, none⟩ = some (.int .i64 p.prio) ∧ w9.cell? ⟨w.heap.size + 1, 2, none⟩ = some (.bool p.crit) ∧ w9.cell? ⟨w.heap.size + 1, 3, none⟩ = some (.int .i64 p.q0) ∧ w9.cell? ⟨w.heap.size + 1, 4, none⟩ = some (.int .i64 p.q1) ∧ w9.cell? ⟨w.heap.size + 1, 5, none⟩ = some (.int .i64 p.q2) ∧ w9.cell? ⟨w.heap.size + 1, 6, none⟩ = some (.int .i64 p.l0) ∧ w9.cell? ⟨w.heap.size + 1, 7, none⟩ = some (.int .i64 p.l1) ∧ w9.cell? ⟨w.heap.size + 1, 8, none⟩ = some (.int .i64 p.l2) ∧ w9.cell? ⟨w.heap.size + 1, 9, none⟩ = some (.string p.image) ∧ w9.cell? ⟨w.heap.size + 1, 10, none⟩ = some (.int .i64 p.size) ∧ w9.cell? ⟨b, off + k * 11, none⟩ = some (.string y.id) ∧ w9.cell? ⟨b, off + k * 11 + 1, none⟩ = some (.int .i64 y.prio) ∧ w9.cell? ⟨b, off + k * 11 + 2, none⟩ = some (.bool y.crit) ∧ w9.cell? ⟨b, off + k * 11 + 3, none⟩ = some (.int .i64 y.q0) ∧ w9.cell? ⟨b, off + k * 11 + 4, none⟩ = some (.int .i64 y.q1) ∧ w9.cell? ⟨b, off + k * 11 + 5, none⟩ = some (.int .i64 y.q2) ∧ w9.cell? ⟨b, off + k * 11 + 6, none⟩ = some (.int .i64 y.l0) ∧ w9.cell? ⟨b, off + k * 11 + 7, none⟩ = some (.int .i64 y.l1) ∧ w9.cell? ⟨b, off + k * 11 + 8, none⟩ = some (.int .i64 y.l2) ∧ w9.cell? ⟨b, off + k * 11 + 9, none⟩ = some (.string y.image) ∧ w9.cell? ⟨b, off + k * 11 + 10, none⟩ = some (.int .i64 y.size) from spCells HQ.out HRi.out HYK.out)
                      clear hK K
                      simp only [Act.put, List.setIfInBounds_toArray, List.set_cons_zero, List.set_cons_succ]
                      refine held_take 32 124 (.bool true) rfl rfl (by kernel_rfl) (by kernel_rfl) (by kernel_rfl) (fun _ _ _ h => h) (by rfl) (by intro w' hSw; (try dsimp only at hSw); go_simp; (try (with_reducible rfl))) (by assumption) ?_
                      simp only [Act.put, List.setIfInBounds_toArray, List.set_cons_zero, List.set_cons_succ]
                      refine held_take 33 125 (.bool true) rfl rfl (by kernel_rfl) (by kernel_rfl) (by kernel_rfl) (fun _ _ _ h => h) (by rfl) (by intro w' hSw; (try dsimp only at hSw); go_simp; (try (with_reducible rfl))) (by assumption) ?_
                      simp only [Act.put, List.setIfInBounds_toArray, List.set_cons_zero, List.set_cons_succ]
                      refine held_take 34 11 (.bool true) rfl rfl (by kernel_rfl) (by kernel_rfl) (by kernel_rfl) (fun _ _ _ h => h) (by rfl) (by intro w' hSw; (try dsimp only at hSw); go_simp; (try (with_reducible rfl))) (by assumption) ?_
                      simp only [Act.put, List.setIfInBounds_toArray, List.set_cons_zero, List.set_cons_succ]
                      refine wpAnyH_done (by kernel_rfl) ?_ _
                      clear hHeld
                      go_wp2_with fail
                      go_roundw
                      case rel => exact ⟨k + 1, by omega, HN.out, by go_num, below_rV HQB.out HB.out⟩
                      case measure => simp [intOf]; omega
                · obtain rfl : k = l.length := by omega
                  have dq : decide ((l.length : Int) < (l.length : Int)) = false := by simp
                  rw [List.take_length, anyId_all HD.out]
                  go_wp2_with fail
                  go_roundw
                  case rel => exact ⟨i + 1, by omega, by go_num, HQB.out⟩
                  case measure => simp [intOf]; omega
    
            · obtain ⟨i', hi'⟩ : ∃ i', i = i' + 1 := ⟨i - 1, by omega⟩
              have HI1 := Lib.hid hi'
              have hwi : IntKind.i64.wrap ((i : Int) - 1) = (i' : Int) := by rw [IntKind.wrap_i64]; omega
              have di' : (i' : Int) < (O.length : Int) := by omega
              have hip : i' < O.length := by omega
              have HC0 := Lib.hid (fun (W : World) (hB : Below W0.heap.size W0 W) => HC.out W hB i' hip)
              have HLT : Hid (blt O[i'] O[i] = true) := by
                have h := HMIN.out.c i' (by omega)
                subst hi'
                exact h
              clear h0 HC hi'
              generalize O[i'] = s0 at *
              generalize O[i] = s at *
              go_wp2_with fail
              have HQB := Lib.hid HQB.out.drew
              have z0 := (HC0.out _ HQB.out)
              have z1 := (HC1.out _ HQB.out)
              refine wp_region_held_drew (S := (fun w' => w'.cell? ⟨bx, ox + i', none⟩ = some (.string s0) ∧ w'.cell? ⟨bx, ox + i, none⟩ = some (.string s))) (by kernel_rfl) (⟨z0, z1⟩) (fun hHeld => ?_)
              clear z0 z1
              refine held_take 0 62 (.int .i64 i) rfl rfl (by kernel_rfl) (by kernel_rfl) (by kernel_rfl) (fun _ _ _ h => h) (by rfl) (by intro w' hSw; (try dsimp only at hSw); go_simp; (try (with_reducible rfl))) (by assumption) ?_
              simp only [Act.put, List.setIfInBounds_toArray, List.set_cons_zero, List.set_cons_succ]
              refine held_take 1 63 (.bool true) rfl rfl (by kernel_rfl) (by kernel_rfl) (by kernel_rfl) (fun _ _ _ h => h) (by rfl) (by intro w' hSw; (try dsimp only at hSw); go_simp; (first | done | with_reducible rfl | (have hh := HI1.out; first | omega | (simp; omega)))) (by assumption) ?_
              simp only [Act.put, List.setIfInBounds_toArray, List.set_cons_zero, List.set_cons_succ]
              refine held_take 2 64 (.bool true) rfl rfl (by kernel_rfl) (by kernel_rfl) (by kernel_rfl) (fun _ _ _ h => h) (by rfl) (by intro w' hSw; (try dsimp only at hSw); go_simp; (try (with_reducible rfl))) (by assumption) ?_
              simp only [Act.put, List.setIfInBounds_toArray, List.set_cons_zero, List.set_cons_succ]
              refine held_take 3 65 (.slice (some ⟨bx, ox, none⟩) O.length cx) rfl rfl (by kernel_rfl) (by kernel_rfl) (by kernel_rfl) (fun _ _ _ h => h) (by rfl) (by intro w' hSw; (try dsimp only at hSw); go_simp; (try (with_reducible rfl))) (by assumption) ?_
              simp only [Act.put, List.setIfInBounds_toArray, List.set_cons_zero, List.set_cons_succ]
              refine held_take 4 66 (.int .i64 i) rfl rfl (by kernel_rfl) (by kernel_rfl) (by kernel_rfl) (fun _ _ _ h => h) (by rfl) (by intro w' hSw; (try dsimp only at hSw); go_simp; (try (with_reducible rfl))) (by assumption) ?_
              simp only [Act.put, List.setIfInBounds_toArray, List.set_cons_zero, List.set_cons_succ]
              refine held_take 5 67 (.int .i64 i') rfl rfl (by kernel_rfl) (by kernel_rfl) (by kernel_rfl) (fun _ _ _ h => h) (by rfl) (by intro w' hSw; (try dsimp only at hSw); go_simp; (first | done | with_reducible rfl | (rw [hwi]))) (by assumption) ?_
              simp only [Act.put, List.setIfInBounds_toArray, List.set_cons_zero, List.set_cons_succ]
              refine held_take 6 68 (.pointer (some ⟨bx, ox + i', none⟩)) rfl rfl (by kernel_rfl) (by kernel_rfl) (by kernel_rfl) (fun _ _ _ h => h) (by rfl) (by intro w' hSw; (try dsimp only at hSw); go_simp; (try (with_reducible rfl))) (by assumption) ?_
              simp only [Act.put, List.setIfInBounds_toArray, List.set_cons_zero, List.set_cons_succ]
              refine held_take 7 69 (.string s0) rfl rfl (by kernel_rfl) (by kernel_rfl) (by kernel_rfl) (fun _ _ _ h => h) (by rfl) (by intro w' hSw; (try dsimp only at hSw); go_simp; (try (with_reducible rfl))) (by assumption) ?_
              simp only [Act.put, List.setIfInBounds_toArray, List.set_cons_zero, List.set_cons_succ]
              refine held_take 8 70 (.slice (some ⟨bx, ox, none⟩) O.length cx) rfl rfl (by kernel_rfl) (by kernel_rfl) (by kernel_rfl) (fun _ _ _ h => h) (by rfl) (by intro w' hSw; (try dsimp only at hSw); go_simp; (try (with_reducible rfl))) (by assumption) ?_
              simp only [Act.put, List.setIfInBounds_toArray, List.set_cons_zero, List.set_cons_succ]
              refine held_take 9 71 (.int .i64 i) rfl rfl (by kernel_rfl) (by kernel_rfl) (by kernel_rfl) (fun _ _ _ h => h) (by rfl) (by intro w' hSw; (try dsimp only at hSw); go_simp; (try (with_reducible rfl))) (by assumption) ?_
              simp only [Act.put, List.setIfInBounds_toArray, List.set_cons_zero, List.set_cons_succ]
              refine held_take 10 72 (.pointer (some ⟨bx, ox + i, none⟩)) rfl rfl (by kernel_rfl) (by kernel_rfl) (by kernel_rfl) (fun _ _ _ h => h) (by rfl) (by intro w' hSw; (try dsimp only at hSw); go_simp; (try (with_reducible rfl))) (by assumption) ?_
              simp only [Act.put, List.setIfInBounds_toArray, List.set_cons_zero, List.set_cons_succ]
              refine held_take 11 73 (.string s) rfl rfl (by kernel_rfl) (by kernel_rfl) (by kernel_rfl) (fun _ _ _ h => h) (by rfl) (by intro w' hSw; (try dsimp only at hSw); go_simp; (try (with_reducible rfl))) (by assumption) ?_
              simp only [Act.put, List.setIfInBounds_toArray, List.set_cons_zero, List.set_cons_succ]
              refine held_take 12 74 (.bool false) rfl rfl (by kernel_rfl) (by kernel_rfl) (by kernel_rfl) (fun _ _ _ h => h) (by rfl) (by intro w' hSw; (try dsimp only at hSw); go_simp; (first | done | with_reducible rfl | (have hh : Op.bytesLess s0.toList s.toList = true := HLT.out; simp [hh]))) (by assumption) ?_
              simp only [Act.put, List.setIfInBounds_toArray, List.set_cons_zero, List.set_cons_succ]
              refine held_take 13 75 (.bool false) rfl rfl (by kernel_rfl) (by kernel_rfl) (by kernel_rfl) (fun _ _ _ h => h) (by rfl) (by intro w' hSw; (try dsimp only at hSw); go_simp; (try (with_reducible rfl))) (by assumption) ?_
              simp only [Act.put, List.setIfInBounds_toArray, List.set_cons_zero, List.set_cons_succ]
              refine wpAnyH_done (by kernel_rfl) ?_ _
              clear hHeld
              go_wp2_with fail
              go_loopw [11, 12] (fun ff kk wq => ∃ k : Nat, k ≤ l.length ∧ ff = .bool (anyId (l.take k) s) ∧ kk = .int .i64 k ∧ Below W0.heap.size W0 wq) (fun _ kk _ => l.length - (intOf kk).toNat)
              case atStart => exact ⟨0, by omega, rfl, rfl, HQB.out⟩
              case round =>
                clear HQB
                obtain ⟨k, hk, rfl, rfl, hbl⟩ := hrel
                have HQB := Lib.hid hbl
                clear hbl
                by_cases hkt : k < l.length
                · have dq : decide ((k : Int) < (l.length : Int)) = true := decide_eq_true (by omega)
                  have dq2 : (k : Int) < (l.length : Int) := by omega
                  obtain ⟨b, off, hA⟩ := HR.out.some_ hkt
                  obtain rfl : Al = some ⟨b, off, none⟩ := hA
                  have HYK := Lib.hid (List.getElem?_eq_getElem hkt)
                  have HNX := Lib.hid (anyId_next l s k hkt)
                  have HME := Lib.hid (HMIN.out.e k hkt)
                  have HWYY := Lib.hid (HW.out _ (List.getElem_mem hkt))
                  generalize l[k] = y at *
                  cases h2 : (y.id.toList == s.toList)
                  · have HN : Hid (Value.bool (anyId (l.take k) s) = Value.bool (anyId (l.take (k + 1)) s)) := by show _ = _; rw [HNX.out, h2, Bool.or_false]
                    have HE := Lib.hid h2
                    clear h2 HNX HME
                    obtain ⟨av, hav⟩ : ∃ v, anyId (l.take k) s = v := ⟨_, rfl⟩
                    rw [hav] at HN ⊢
                    clear hav
                    go_wp2_with fail
                    have HQB := Lib.hid HQB.out.drew
                    have z0 := (HRi0.out.pdAt HQB.out HYK.out).1
                    have z1 := (HC1.out _ HQB.out)
                    refine wp_region_held_drew (S := (fun w' => w'.cell? ⟨b, off + k * 11, none⟩ = some (.string y.id) ∧ w'.cell? ⟨bx, ox + i, none⟩ = some (.string s))) (by kernel_rfl) (⟨z0, z1⟩) (fun hHeld => ?_)
                    clear z0 z1
                    refine held_take 0 82 (.slice (some ⟨b, off, none⟩) l.length cl) rfl rfl (by kernel_rfl) (by kernel_rfl) (by kernel_rfl) (fun _ _ _ h => h) (by rfl) (by intro w' hSw; (try dsimp only at hSw); go_simp; (try (with_reducible rfl))) (by assumption) ?_
                    simp only [Act.put, List.setIfInBounds_toArray, List.set_cons_zero, List.set_cons_succ]
                    refine held_take 1 83 (.int .i64 k) rfl rfl (by kernel_rfl) (by kernel_rfl) (by kernel_rfl) (fun _ _ _ h => h) (by rfl) (by intro w' hSw; (try dsimp only at hSw); go_simp; (try (with_reducible rfl))) (by assumption) ?_
                    simp only [Act.put, List.setIfInBounds_toArray, List.set_cons_zero, List.set_cons_succ]
                    refine held_take 2 84 (.pointer (some ⟨b, off + k * 11, none⟩)) rfl rfl (by kernel_rfl) (by kernel_rfl) (by kernel_rfl) (fun _ _ _ h => h) (by rfl) (by intro w' hSw; (try dsimp only at hSw); go_simp; (try (with_reducible rfl))) (by assumption) ?_
                    simp only [Act.put, List.setIfInBounds_toArray, List.set_cons_zero, List.set_cons_succ]
                    refine held_take 3 85 (.pointer (some ⟨b, off + k * 11, none⟩)) rfl rfl (by kernel_rfl) (by kernel_rfl) (by kernel_rfl) (fun _ _ _ h => h) (by rfl) (by intro w' hSw; (try dsimp only at hSw); go_simp; (try (with_reducible rfl))) (by assumption) ?_
                    simp only [Act.put, List.setIfInBounds_toArray, List.set_cons_zero, List.set_cons_succ]
                    refine held_take 4 86 (.string y.id) rfl rfl (by kernel_rfl) (by kernel_rfl) (by kernel_rfl) (fun _ _ _ h => h) (by rfl) (by intro w' hSw; (try dsimp only at hSw); go_simp; (try (with_reducible rfl))) (by assumption) ?_
                    simp only [Act.put, List.setIfInBounds_toArray, List.set_cons_zero, List.set_cons_succ]
                    refine held_take 5 87 (.slice (some ⟨bx, ox, none⟩) O.length cx) rfl rfl (by kernel_rfl) (by kernel_rfl) (by kernel_rfl) (fun _ _ _ h => h) (by rfl) (by intro w' hSw; (try dsimp only at hSw); go_simp; (try (with_reducible rfl))) (by assumption) ?_
                    simp only [Act.put, List.setIfInBounds_toArray, List.set_cons_zero, List.set_cons_succ]
                    refine held_take 6 88 (.int .i64 i) rfl rfl (by kernel_rfl) (by kernel_rfl) (by kernel_rfl) (fun _ _ _ h => h) (by rfl) (by intro w' hSw; (try dsimp only at hSw); go_simp; (try (with_reducible rfl))) (by assumption) ?_
                    simp only [Act.put, List.setIfInBounds_toArray, List.set_cons_zero, List.set_cons_succ]
                    refine held_take 7 89 (.pointer (some ⟨bx, ox + i, none⟩)) rfl rfl (by kernel_rfl) (by kernel_rfl) (by kernel_rfl) (fun _ _ _ h => h) (by rfl) (by intro w' hSw; (try dsimp only at hSw); go_simp; (try (with_reducible rfl))) (by assumption) ?_
                    simp only [Act.put, List.setIfInBounds_toArray, List.set_cons_zero, List.set_cons_succ]
                    refine held_take 8 90 (.string s) rfl rfl (by kernel_rfl) (by kernel_rfl) (by kernel_rfl) (fun _ _ _ h => h) (by rfl) (by intro w' hSw; (try dsimp only at hSw); go_simp; (try (with_reducible rfl))) (by assumption) ?_
                    simp only [Act.put, List.setIfInBounds_toArray, List.set_cons_zero, List.set_cons_succ]
                    refine held_take 9 91 (.bool false) rfl rfl (by kernel_rfl) (by kernel_rfl) (by kernel_rfl) (fun _ _ _ h => h) (by rfl) (by intro w' hSw; (try dsimp only at hSw); go_simp; (first | done | with_reducible rfl | (have hh := HE.out; simpa using hh))) (by assumption) ?_
                    simp only [Act.put, List.setIfInBounds_toArray, List.set_cons_zero, List.set_cons_succ]
                    refine wpAnyH_done (by kernel_rfl) ?_ _
                    clear hHeld
                    go_wp2_with fail
                    go_roundw
                    case rel => exact ⟨k + 1, by omega, HN.out, by go_num, HQB.out⟩
                    case measure => simp [intOf]; omega
                  · have HN : Hid (Value.bool true = Value.bool (anyId (l.take (k + 1)) s)) := by show _ = _; rw [HNX.out, h2, Bool.or_true]
                    have HE := Lib.hid h2
                    have hid := toList_injV h2
                    have hmem : y.id ∈ O := by rw [hid]; exact HSO.out
                    obtain ⟨m1, m2, m3, m4⟩ := HME.out hmem
                    have HPC := Lib.hid m1
                    have HYC := Lib.hid m2
                    have HG := Lib.hid m3
                    have HFY := Lib.hid m4
                    have HWY := Lib.hid (show ∀ x ∈ ST ++ [y], x.Wf from fun x hx => by
                      rcases List.mem_append.1 hx with h | h
                      · exact HWS.out x h
                      · rw [List.mem_singleton.1 h]; exact HWYY.out)
                    clear h2 HNX HME hid hmem m1 m2 m3 m4
                    obtain ⟨av, hav⟩ : ∃ v, anyId (l.take k) s = v := ⟨_, rfl⟩
                    rw [hav]
                    clear hav
                    go_wp2_with fail
                    have HQB := Lib.hid HQB.out.drew
                    have z0 := (HRi0.out.pdAt HQB.out HYK.out).1
                    have z1 := (HC1.out _ HQB.out)
                    refine wp_region_held_drew (S := (fun w' => w'.cell? ⟨b, off + k * 11, none⟩ = some (.string y.id) ∧ w'.cell? ⟨bx, ox + i, none⟩ = some (.string s))) (by kernel_rfl) (⟨z0, z1⟩) (fun hHeld => ?_)
                    clear z0 z1
                    refine held_take 0 82 (.slice (some ⟨b, off, none⟩) l.length cl) rfl rfl (by kernel_rfl) (by kernel_rfl) (by kernel_rfl) (fun _ _ _ h => h) (by rfl) (by intro w' hSw; (try dsimp only at hSw); go_simp; (try (with_reducible rfl))) (by assumption) ?_
                    simp only [Act.put, List.setIfInBounds_toArray, List.set_cons_zero, List.set_cons_succ]
                    refine held_take 1 83 (.int .i64 k) rfl rfl (by kernel_rfl) (by kernel_rfl) (by kernel_rfl) (fun _ _ _ h => h) (by rfl) (by intro w' hSw; (try dsimp only at hSw); go_simp; (try (with_reducible rfl))) (by assumption) ?_
                    simp only [Act.put, List.setIfInBounds_toArray, List.set_cons_zero, List.set_cons_succ]
                    refine held_take 2 84 (.pointer (some ⟨b, off + k * 11, none⟩)) rfl rfl (by kernel_rfl) (by kernel_rfl) (by kernel_rfl) (fun _ _ _ h => h) (by rfl) (by intro w' hSw; (try dsimp only at hSw); go_simp; (try (with_reducible rfl))) (by assumption) ?_
                    simp only [Act.put, List.setIfInBounds_toArray, List.set_cons_zero, List.set_cons_succ]
                    refine held_take 3 85 (.pointer (some ⟨b, off + k * 11, none⟩)) rfl rfl (by kernel_rfl) (by kernel_rfl) (by kernel_rfl) (fun _ _ _ h => h) (by rfl) (by intro w' hSw; (try dsimp only at hSw); go_simp; (try (with_reducible rfl))) (by assumption) ?_
                    simp only [Act.put, List.setIfInBounds_toArray, List.set_cons_zero, List.set_cons_succ]
                    refine held_take 4 86 (.string y.id) rfl rfl (by kernel_rfl) (by kernel_rfl) (by kernel_rfl) (fun _ _ _ h => h) (by rfl) (by intro w' hSw; (try dsimp only at hSw); go_simp; (try (with_reducible rfl))) (by assumption) ?_
                    simp only [Act.put, List.setIfInBounds_toArray, List.set_cons_zero, List.set_cons_succ]
                    refine held_take 5 87 (.slice (some ⟨bx, ox, none⟩) O.length cx) rfl rfl (by kernel_rfl) (by kernel_rfl) (by kernel_rfl) (fun _ _ _ h => h) (by rfl) (by intro w' hSw; (try dsimp only at hSw); go_simp; (try (with_reducible rfl))) (by assumption) ?_
                    simp only [Act.put, List.setIfInBounds_toArray, List.set_cons_zero, List.set_cons_succ]
                    refine held_take 6 88 (.int .i64 i) rfl rfl (by kernel_rfl) (by kernel_rfl) (by kernel_rfl) (fun _ _ _ h => h) (by rfl) (by intro w' hSw; (try dsimp only at hSw); go_simp; (try (with_reducible rfl))) (by assumption) ?_
                    simp only [Act.put, List.setIfInBounds_toArray, List.set_cons_zero, List.set_cons_succ]
                    refine held_take 7 89 (.pointer (some ⟨bx, ox + i, none⟩)) rfl rfl (by kernel_rfl) (by kernel_rfl) (by kernel_rfl) (fun _ _ _ h => h) (by rfl) (by intro w' hSw; (try dsimp only at hSw); go_simp; (try (with_reducible rfl))) (by assumption) ?_
                    simp only [Act.put, List.setIfInBounds_toArray, List.set_cons_zero, List.set_cons_succ]
                    refine held_take 8 90 (.string s) rfl rfl (by kernel_rfl) (by kernel_rfl) (by kernel_rfl) (fun _ _ _ h => h) (by rfl) (by intro w' hSw; (try dsimp only at hSw); go_simp; (try (with_reducible rfl))) (by assumption) ?_
                    simp only [Act.put, List.setIfInBounds_toArray, List.set_cons_zero, List.set_cons_succ]
                    refine held_take 9 91 (.bool true) rfl rfl (by kernel_rfl) (by kernel_rfl) (by kernel_rfl) (fun _ _ _ h => h) (by rfl) (by intro w' hSw; (try dsimp only at hSw); go_simp; (first | done | with_reducible rfl | (have hh := HE.out; simpa using hh))) (by assumption) ?_
                    simp only [Act.put, List.setIfInBounds_toArray, List.set_cons_zero, List.set_cons_succ]
                    refine wpAnyH_done (by kernel_rfl) ?_ _
                    clear hHeld
                    go_wp2_with fail
                    have HQB := Lib.hid HQB.out.drew
                    have HQd := Lib.hid (HQ0.out.below HQB.out)
                    have HRd := Lib.hid (HRi0.out.below HQB.out)
                    have HSd := Lib.hid (HS0.out.below HQB.out)
                    refine wp_region_held_drew (S := (fun w' => w'.cell? ⟨w.heap.size, 0, none⟩ = some (.int .i64 room.a) ∧ w'.cell? ⟨w.heap.size, 1, none⟩ = some (.int .i64 room.b) ∧ w'.cell? ⟨w.heap.size, 2, none⟩ = some (.int .i64 room.c) ∧ w'.cell? ⟨w.heap.size + 1, 0, none⟩ = some (.string p.id) ∧ w'.cell? ⟨w.heap.size + 1, 1, none⟩ = some (.int .i64 p.prio) ∧ w'.cell? ⟨w.heap.size + 1, 2, none⟩ = some (.bool p.crit) ∧ w'.cell? ⟨w.heap.size + 1, 3, none⟩ = some (.int .i64 p.q0) ∧ w'.cell? ⟨w.heap.size + 1, 4, none⟩ = some (.int .i64 p.q1) ∧ w'.cell? ⟨w.heap.size + 1, 5, none⟩ = some (.int .i64 p.q2) ∧ w'.cell? ⟨w.heap.size + 1, 6, none⟩ = some (.int .i64 p.l0) ∧ w'.cell? ⟨w.heap.size + 1, 7, none⟩ = some (.int .i64 p.l1) ∧ w'.cell? ⟨w.heap.size + 1, 8, none⟩ = some (.int .i64 p.l2) ∧ w'.cell? ⟨w.heap.size + 1, 9, none⟩ = some (.string p.image) ∧ w'.cell? ⟨w.heap.size + 1, 10, none⟩ = some (.int .i64 p.size) ∧ w'.cell? ⟨b, off + k * 11, none⟩ = some (.string y.id) ∧ w'.cell? ⟨b, off + k * 11 + 1, none⟩ = some (.int .i64 y.prio) ∧ w'.cell? ⟨b, off + k * 11 + 2, none⟩ = some (.bool y.crit) ∧ w'.cell? ⟨b, off + k * 11 + 3, none⟩ = some (.int .i64 y.q0) ∧ w'.cell? ⟨b, off + k * 11 + 4, none⟩ = some (.int .i64 y.q1) ∧ w'.cell? ⟨b, off + k * 11 + 5, none⟩ = some (.int .i64 y.q2) ∧ w'.cell? ⟨b, off + k * 11 + 6, none⟩ = some (.int .i64 y.l0) ∧ w'.cell? ⟨b, off + k * 11 + 7, none⟩ = some (.int .i64 y.l1) ∧ w'.cell? ⟨b, off + k * 11 + 8, none⟩ = some (.int .i64 y.l2) ∧ w'.cell? ⟨b, off + k * 11 + 9, none⟩ = some (.string y.image) ∧ w'.cell? ⟨b, off + k * 11 + 10, none⟩ = some (.int .i64 y.size))) (by kernel_rfl) (spCells HQd.out HRd.out HYK.out) (fun hHeld => ?_)
                    generalize hwd : World.drew _ = wd at HQB HQd HRd HSd hHeld ⊢
                    clear hwd
                    have hb0 : Below wd.heap.size wd wd := Below.refl _ _
                    have HB := Lib.hid hb0
                    clear hb0
                    have HQ := HQd
                    have HRi := HRd
                    refine held_take 0 92 (.pointer (some ⟨w.heap.size + 1, 2, none⟩)) rfl rfl (by kernel_rfl) (by kernel_rfl) (by kernel_rfl) (fun _ _ _ h => h) (by rfl) (by intro w' hSw; (try dsimp only at hSw); go_simp; (try (with_reducible rfl))) (by assumption) ?_
                    simp only [Act.put, List.setIfInBounds_toArray, List.set_cons_zero, List.set_cons_succ]
                    refine held_take 1 93 (.bool true) rfl rfl (by kernel_rfl) (by kernel_rfl) (by kernel_rfl) (fun _ _ _ h => h) (by rfl) (by intro w' hSw; (try dsimp only at hSw); go_simp; (first | done | with_reducible rfl | (have hh := HPC.out; simpa using hh))) (by assumption) ?_
                    simp only [Act.put, List.setIfInBounds_toArray, List.set_cons_zero, List.set_cons_succ]
                    refine held_take 2 94 (.bool true) rfl rfl (by kernel_rfl) (by kernel_rfl) (by kernel_rfl) (fun _ _ _ h => h) (by rfl) (by intro w' hSw; (try dsimp only at hSw); go_simp; (try (with_reducible rfl))) (by assumption) ?_
                    simp only [Act.put, List.setIfInBounds_toArray, List.set_cons_zero, List.set_cons_succ]
                    refine held_take 3 95 (.slice (some ⟨b, off, none⟩) l.length cl) rfl rfl (by kernel_rfl) (by kernel_rfl) (by kernel_rfl) (fun _ _ _ h => h) (by rfl) (by intro w' hSw; (try dsimp only at hSw); go_simp; (try (with_reducible rfl))) (by assumption) ?_
                    simp only [Act.put, List.setIfInBounds_toArray, List.set_cons_zero, List.set_cons_succ]
                    refine held_take 4 96 (.int .i64 k) rfl rfl (by kernel_rfl) (by kernel_rfl) (by kernel_rfl) (fun _ _ _ h => h) (by rfl) (by intro w' hSw; (try dsimp only at hSw); go_simp; (try (with_reducible rfl))) (by assumption) ?_
                    simp only [Act.put, List.setIfInBounds_toArray, List.set_cons_zero, List.set_cons_succ]
                    refine held_take 5 97 (.pointer (some ⟨b, off + k * 11, none⟩)) rfl rfl (by kernel_rfl) (by kernel_rfl) (by kernel_rfl) (fun _ _ _ h => h) (by rfl) (by intro w' hSw; (try dsimp only at hSw); go_simp; (try (with_reducible rfl))) (by assumption) ?_
                    simp only [Act.put, List.setIfInBounds_toArray, List.set_cons_zero, List.set_cons_succ]
                    refine held_take 6 98 (.pointer (some ⟨b, off + k * 11 + 2, none⟩)) rfl rfl (by kernel_rfl) (by kernel_rfl) (by kernel_rfl) (fun _ _ _ h => h) (by rfl) (by intro w' hSw; (try dsimp only at hSw); go_simp; (try (with_reducible rfl))) (by assumption) ?_
                    simp only [Act.put, List.setIfInBounds_toArray, List.set_cons_zero, List.set_cons_succ]
                    refine held_take 7 99 (.bool false) rfl rfl (by kernel_rfl) (by kernel_rfl) (by kernel_rfl) (fun _ _ _ h => h) (by rfl) (by intro w' hSw; (try dsimp only at hSw); go_simp; (first | done | with_reducible rfl | (have hh := HYC.out; simpa using hh))) (by assumption) ?_
                    simp only [Act.put, List.setIfInBounds_toArray, List.set_cons_zero, List.set_cons_succ]
                    refine held_take 8 100 (.bool true) rfl rfl (by kernel_rfl) (by kernel_rfl) (by kernel_rfl) (fun _ _ _ h => h) (by rfl) (by intro w' hSw; (try dsimp only at hSw); go_simp; (try (with_reducible rfl))) (by assumption) ?_
                    simp only [Act.put, List.setIfInBounds_toArray, List.set_cons_zero, List.set_cons_succ]
                    refine held_take 9 101 (.bool true) rfl rfl (by kernel_rfl) (by kernel_rfl) (by kernel_rfl) (fun _ _ _ h => h) (by rfl) (by intro w' hSw; (try dsimp only at hSw); go_simp; (try (with_reducible rfl))) (by assumption) ?_
                    simp only [Act.put, List.setIfInBounds_toArray, List.set_cons_zero, List.set_cons_succ]
                    refine held_take 10 102 (.bool true) rfl rfl (by kernel_rfl) (by kernel_rfl) (by kernel_rfl) (fun _ _ _ h => h) (by rfl) (by intro w' hSw; (try dsimp only at hSw); go_simp; (try (with_reducible rfl))) (by assumption) ?_
                    simp only [Act.put, List.setIfInBounds_toArray, List.set_cons_zero, List.set_cons_succ]
                    refine held_take 11 103 (.slice (some ⟨b, off, none⟩) l.length cl) rfl rfl (by kernel_rfl) (by kernel_rfl) (by kernel_rfl) (fun _ _ _ h => h) (by rfl) (by intro w' hSw; (try dsimp only at hSw); go_simp; (try (with_reducible rfl))) (by assumption) ?_
                    simp only [Act.put, List.setIfInBounds_toArray, List.set_cons_zero, List.set_cons_succ]
                    refine held_take 12 104 (.int .i64 k) rfl rfl (by kernel_rfl) (by kernel_rfl) (by kernel_rfl) (fun _ _ _ h => h) (by rfl) (by intro w' hSw; (try dsimp only at hSw); go_simp; (try (with_reducible rfl))) (by assumption) ?_
                    simp only [Act.put, List.setIfInBounds_toArray, List.set_cons_zero, List.set_cons_succ]
                    refine held_take 13 105 (.pointer (some ⟨b, off + k * 11, none⟩)) rfl rfl (by kernel_rfl) (by kernel_rfl) (by kernel_rfl) (fun _ _ _ h => h) (by rfl) (by intro w' hSw; (try dsimp only at hSw); go_simp; (try (with_reducible rfl))) (by assumption) ?_
                    simp only [Act.put, List.setIfInBounds_toArray, List.set_cons_zero, List.set_cons_succ]
                    refine held_take 14 106 (.pointer (some ⟨b, off + k * 11 + 1, none⟩)) rfl rfl (by kernel_rfl) (by kernel_rfl) (by kernel_rfl) (fun _ _ _ h => h) (by rfl) (by intro w' hSw; (try dsimp only at hSw); go_simp; (try (with_reducible rfl))) (by assumption) ?_
                    simp only [Act.put, List.setIfInBounds_toArray, List.set_cons_zero, List.set_cons_succ]
                    refine held_take 15 107 (.int .i64 y.prio) rfl rfl (by kernel_rfl) (by kernel_rfl) (by kernel_rfl) (fun _ _ _ h => h) (by rfl) (by intro w' hSw; (try dsimp only at hSw); go_simp; (try (with_reducible rfl))) (by assumption) ?_
                    simp only [Act.put, List.setIfInBounds_toArray, List.set_cons_zero, List.set_cons_succ]
                    refine held_take 16 108 (.pointer (some ⟨w.heap.size + 1, 1, none⟩)) rfl rfl (by kernel_rfl) (by kernel_rfl) (by kernel_rfl) (fun _ _ _ h => h) (by rfl) (by intro w' hSw; (try dsimp only at hSw); go_simp; (try (with_reducible rfl))) (by assumption) ?_
                    simp only [Act.put, List.setIfInBounds_toArray, List.set_cons_zero, List.set_cons_succ]
                    refine held_take 17 109 (.int .i64 p.prio) rfl rfl (by kernel_rfl) (by kernel_rfl) (by kernel_rfl) (fun _ _ _ h => h) (by rfl) (by intro w' hSw; (try dsimp only at hSw); go_simp; (try (with_reducible rfl))) (by assumption) ?_
                    simp only [Act.put, List.setIfInBounds_toArray, List.set_cons_zero, List.set_cons_succ]
                    refine held_take 18 110 (.bool true) rfl rfl (by kernel_rfl) (by kernel_rfl) (by kernel_rfl) (fun _ _ _ h => h) (by rfl) (by intro w' hSw; (try dsimp only at hSw); go_simp; (first | done | with_reducible rfl | (have hh := HG.out; first | omega | (simp; omega)))) (by assumption) ?_
                    simp only [Act.put, List.setIfInBounds_toArray, List.set_cons_zero, List.set_cons_succ]
                    refine held_take 19 111 (.bool true) rfl rfl (by kernel_rfl) (by kernel_rfl) (by kernel_rfl) (fun _ _ _ h => h) (by rfl) (by intro w' hSw; (try dsimp only at hSw); go_simp; (try (with_reducible rfl))) (by assumption) ?_
                    simp only [Act.put, List.setIfInBounds_toArray, List.set_cons_zero, List.set_cons_succ]
                    refine held_take 20 112 (.bool true) rfl rfl (by kernel_rfl) (by kernel_rfl) (by kernel_rfl) (fun _ _ _ h => h) (by rfl) (by intro w' hSw; (try dsimp only at hSw); go_simp; (try (with_reducible rfl))) (by assumption) ?_
                    simp only [Act.put, List.setIfInBounds_toArray, List.set_cons_zero, List.set_cons_succ]
                    refine held_take 21 113 (.agg #[.int .i64 room.a, .int .i64 room.b, .int .i64 room.c]) rfl rfl (by kernel_rfl) (by kernel_rfl) (by kernel_rfl) (fun _ _ _ h => h) (by rfl) (by intro w' hSw; (try dsimp only at hSw); go_simp; (try (with_reducible rfl))) (by assumption) ?_
                    simp only [Act.put, List.setIfInBounds_toArray, List.set_cons_zero, List.set_cons_succ]
                    refine held_take 23 115 (.slice As ST.length cs) rfl rfl (by kernel_rfl) (by kernel_rfl) (by kernel_rfl) (fun _ _ _ h => h) (by rfl) (by intro w' hSw; (try dsimp only at hSw); go_simp; (try (with_reducible rfl))) (by assumption) ?_
                    simp only [Act.put, List.setIfInBounds_toArray, List.set_cons_zero, List.set_cons_succ]
                    refine held_take 25 117 (.slice (some ⟨b, off, none⟩) l.length cl) rfl rfl (by kernel_rfl) (by kernel_rfl) (by kernel_rfl) (fun _ _ _ h => h) (by rfl) (by intro w' hSw; (try dsimp only at hSw); go_simp; (try (with_reducible rfl))) (by assumption) ?_
                    simp only [Act.put, List.setIfInBounds_toArray, List.set_cons_zero, List.set_cons_succ]
                    refine held_take 26 118 (.int .i64 k) rfl rfl (by kernel_rfl) (by kernel_rfl) (by kernel_rfl) (fun _ _ _ h => h) (by rfl) (by intro w' hSw; (try dsimp only at hSw); go_simp; (try (with_reducible rfl))) (by assumption) ?_
                    simp only [Act.put, List.setIfInBounds_toArray, List.set_cons_zero, List.set_cons_succ]
                    refine held_take 27 119 (.pointer (some ⟨b, off + k * 11, none⟩)) rfl rfl (by kernel_rfl) (by kernel_rfl) (by kernel_rfl) (fun _ _ _ h => h) (by rfl) (by intro w' hSw; (try dsimp only at hSw); go_simp; (try (with_reducible rfl))) (by assumption) ?_
                    simp only [Act.put, List.setIfInBounds_toArray, List.set_cons_zero, List.set_cons_succ]
                    refine held_take 28 120 (.agg #[.string y.id, .int .i64 y.prio, .bool y.crit, .int .i64 y.q0, .int .i64 y.q1, .int .i64 y.q2, .int .i64 y.l0, .int .i64 y.l1, .int .i64 y.l2, .string y.image, .int .i64 y.size]) rfl rfl (by kernel_rfl) (by kernel_rfl) (by kernel_rfl) (fun _ _ _ h => h) (by rfl) (by intro w' hSw; (try dsimp only at hSw); go_simp; (try (with_reducible rfl))) (by assumption) ?_
                    simp only [Act.put, List.setIfInBounds_toArray, List.set_cons_zero, List.set_cons_succ]
                    refine held_twoD 22 29 114 121 rfl rfl rfl rfl (by kernel_rfl) (by rfl) (by rfl) (fun K hK => ?_) (fun K hK => ?_)
                    · go_simp
                      have how := Own.made (wd) wd.heap.size 25 encP [] #[] rfl HB.out.size (by simp)
                      have HOW := Lib.hid how
                      clear how
                      have HB := Lib.hid (HB.out.alloc HB.out.size (.cells #[] 25))
                      have HQ := Lib.hid (HQd.out.below HB.out)
                      have HRi := Lib.hid (HRd.out.below HB.out)
                      refine hK _ _ (spCells HQ.out HRi.out HYK.out) ?_
                      have hHeld := (show ((wd).alloc (.cells #[] 25)).cell? ⟨w.heap.size, 0, none⟩ = some (.int .i64 room.a) ∧ ((wd).alloc (.cells #[] 25)).cell? ⟨w.heap.size, 1, none⟩ = some (.int .i64 room.b) ∧ ((wd).alloc (.cells #[] 25)).cell? ⟨w.heap.size, 2, none⟩ = some (.int .i64 room.c) ∧ ((wd).alloc (.cells #[] 25)).cell? ⟨w.heap.size + 1, 0, none⟩ = some (.string p.id) ∧ ((wd).alloc (.cells #[] 25)).cell? ⟨w.heap.size + 1, 1, none⟩ = some (.int .i64 p.prio) ∧ ((wd).alloc (.cells #[] 25)).cell? ⟨w.heap.size + 1, 2, none⟩ = some (.bool p.crit) ∧ ((wd).alloc (.cells #[] 25)).cell? ⟨w.heap.size + 1, 3, none⟩ = some (.int .i64 p.q0) ∧ ((wd).alloc (.cells #[] 25)).cell? ⟨w.heap.size + 1, 4, none⟩ = some (.int .i64 p.q1) ∧ ((wd).alloc (.cells #[] 25)).cell? ⟨w.heap.size + 1, 5, none⟩ = some (.int .i64 p.q2) ∧ ((wd).alloc (.cells #[] 25)).cell? ⟨w.heap.size + 1, 6, none⟩ = some (.int .i64 p.l0) ∧ ((wd).alloc (.cells #[] 25)).cell? ⟨w.heap.size + 1, 7, none⟩ = some (.int .i64 p.l1) ∧ ((wd).alloc (.cells #[] 25)).cell? ⟨w.heap.size + 1, 8, none⟩ = some (.int .i64 p.l2) ∧ ((wd).alloc (.cells #[] 25)).cell? ⟨w.heap.size + 1, 9, none⟩ = some (.string p.image) ∧ ((wd).alloc (.cells #[] 25)).cell? ⟨w.heap.size + 1, 10, none⟩ = some (.int .i64 p.size) ∧ ((wd).alloc (.cells #[] 25)).cell? ⟨b, off + k * 11, none⟩ = some (.string y.id) ∧ ((wd).alloc (.cells #[] 25)).cell? ⟨b, off + k * 11 + 1, none⟩ = some (.int .i64 y.prio) ∧ ((wd).alloc (.cells #[] 25)).cell? ⟨b, off + k * 11 + 2, none⟩ = some (.bool y.crit) ∧ ((wd).alloc (.cells #[] 25)).cell? ⟨b, off + k * 11 + 3, none⟩ = some (.int .i64 y.q0) ∧ ((wd).alloc (.cells #[] 25)).cell? ⟨b, off + k * 11 + 4, none⟩ = some (.int .i64 y.q1) ∧ ((wd).alloc (.cells #[] 25)).cell? ⟨b, off + k * 11 + 5, none⟩ = some (.int .i64 y.q2) ∧ ((wd).alloc (.cells #[] 25)).cell? ⟨b, off + k * 11 + 6, none⟩ = some (.int .i64 y.l0) ∧ ((wd).alloc (.cells #[] 25)).cell? ⟨b, off + k * 11 + 7, none⟩ = some (.int .i64 y.l1) ∧ ((wd).alloc (.cells #[] 25)).cell? ⟨b, off + k * 11 + 8, none⟩ = some (.int .i64 y.l2) ∧ ((wd).alloc (.cells #[] 25)).cell? ⟨b, off + k * 11 + 9, none⟩ = some (.string y.image) ∧ ((wd).alloc (.cells #[] 25)).cell? ⟨b, off + k * 11 + 10, none⟩ = some (.int .i64 y.size) from spCells HQ.out HRi.out HYK.out)
                      clear hK K
                      simp only [Act.put, List.setIfInBounds_toArray, List.set_cons_zero, List.set_cons_succ]
                      refine held_twoD 24 29 116 121 rfl rfl rfl rfl (by kernel_rfl) (by rfl) (by rfl) (fun K hK => ?_) (fun K hK => ?_)
                      · refine wp_app (wd.alloc (.cells #[] 25)) elemP encP (.tmp 114) (.tmp 115) rfl wd.heap.size _ [] (by simp [Act.eval]) HOW.out As ST cs (by simp [Act.eval]) (HSd.out.below (HB.out.mono (by simp))) (by simp; omega) (by simp; omega) HB.out.size ?_
                        intro A5 c5 w5 ho hg _
                        have hb5 := HOW.out.belowGrown HB.out hg (Nat.le_refl _) HB.out.size
                        have how : Own w5 wd.heap.size 25 encP (.slice A5 (ST).length c5) ST := by simpa using ho
                        have HOW := Lib.hid how
                        have HB := Lib.hid hb5
                        clear ho how hg hb5
                        have HQ := Lib.hid (HQd.out.below HB.out)
                        have HRi := Lib.hid (HRd.out.below HB.out)
                        simp only [List.length_nil, Nat.zero_add]
                        refine hK _ _ (spCells HQ.out HRi.out HYK.out) ?_
                        have hHeld := (show w5.cell? ⟨w.heap.size, 0, none⟩ = some (.int .i64 room.a) ∧ w5.cell? ⟨w.heap.size, 1, none⟩ = some (.int .i64 room.b) ∧ w5.cell? ⟨w.heap.size, 2, none⟩ = some (.int .i64 room.c) ∧ w5.cell? ⟨w.heap.size + 1, 0, none⟩ = some (.string p.id) ∧ w5.cell? ⟨w.heap.size + 1, 1, none⟩ = some (.int .i64 p.prio) ∧ w5.cell? ⟨w.heap.size + 1, 2, none⟩ = some (.bool p.crit) ∧ w5.cell? ⟨w.heap.size + 1, 3, none⟩ = some (.int .i64 p.q0) ∧ w5.cell? ⟨w.heap.size + 1, 4, none⟩ = some (.int .i64 p.q1) ∧ w5.cell? ⟨w.heap.size + 1, 5, none⟩ = some (.int .i64 p.q2) ∧ w5.cell? ⟨w.heap.size + 1, 6, none⟩ = some (.int .i64 p.l0) ∧ w5.cell? ⟨w.heap.size + 1, 7, none⟩ = some (.int .i64 p.l1) ∧ w5.cell? ⟨w.heap.size + 1, 8, none⟩ = some (.int .i64 p.l2) ∧ w5.cell? ⟨w.heap.size + 1, 9, none⟩ = some (.string p.image) ∧ w5.cell? ⟨w.heap.size + 1, 10, none⟩ = some (.int .i64 p.size) ∧ w5.cell? ⟨b, off + k * 11, none⟩ = some (.string y.id) ∧ w5.cell? ⟨b, off + k * 11 + 1, none⟩ = some (.int .i64 y.prio) ∧ w5.cell? ⟨b, off + k * 11 + 2, none⟩ = some (.bool y.crit) ∧ w5.cell? ⟨b, off + k * 11 + 3, none⟩ = some (.int .i64 y.q0) ∧ w5.cell? ⟨b, off + k * 11 + 4, none⟩ = some (.int .i64 y.q1) ∧ w5.cell? ⟨b, off + k * 11 + 5, none⟩ = some (.int .i64 y.q2) ∧ w5.cell? ⟨b, off + k * 11 + 6, none⟩ = some (.int .i64 y.l0) ∧ w5.cell? ⟨b, off + k * 11 + 7, none⟩ = some (.int .i64 y.l1) ∧ w5.cell? ⟨b, off + k * 11 + 8, none⟩ = some (.int .i64 y.l2) ∧ w5.cell? ⟨b, off + k * 11 + 9, none⟩ = some (.string y.image) ∧ w5.cell? ⟨b, off + k * 11 + 10, none⟩ = some (.int .i64 y.size) from spCells HQ.out HRi.out HYK.out)
                        clear hK K
                        simp only [Act.put, List.setIfInBounds_toArray, List.set_cons_zero, List.set_cons_succ]
                        refine held_call 29 121 rfl rfl (by kernel_rfl) (by rfl) (fun K hK => ?_)
                        go_simp
                        have hrw := Rds.made (w5) encP [y] 25 #[.string y.id, .int .i64 y.prio, .bool y.crit, .int .i64 y.q0, .int .i64 y.q1, .int .i64 y.q2, .int .i64 y.l0, .int .i64 y.l1, .int .i64 y.l2, .string y.image, .int .i64 y.size] (0, 0) rfl
                        have HOW := Lib.hid (HOW.out.alloc (.cells #[.string y.id, .int .i64 y.prio, .bool y.crit, .int .i64 y.q0, .int .i64 y.q1, .int .i64 y.q2, .int .i64 y.l0, .int .i64 y.l1, .int .i64 y.l2, .string y.image, .int .i64 y.size] 25))
                        have HRW := Lib.hid hrw
                        clear hrw
                        have HB := Lib.hid (HB.out.alloc HB.out.size (.cells #[.string y.id, .int .i64 y.prio, .bool y.crit, .int .i64 y.q0, .int .i64 y.q1, .int .i64 y.q2, .int .i64 y.l0, .int .i64 y.l1, .int .i64 y.l2, .string y.image, .int .i64 y.size] 25))
                        have HQ := Lib.hid (HQd.out.below HB.out)
                        have HRi := Lib.hid (HRd.out.below HB.out)
                        refine hK _ _ (spCells HQ.out HRi.out HYK.out) ?_
                        have hHeld := (show ((w5).alloc (.cells #[.string y.id, .int .i64 y.prio, .bool y.crit, .int .i64 y.q0, .int .i64 y.q1, .int .i64 y.q2, .int .i64 y.l0, .int .i64 y.l1, .int .i64 y.l2, .string y.image, .int .i64 y.size] 25)).cell? ⟨w.heap.size, 0, none⟩ = some (.int .i64 room.a) ∧ ((w5).alloc (.cells #[.string y.id, .int .i64 y.prio, .bool y.crit, .int .i64 y.q0, .int .i64 y.q1, .int .i64 y.q2, .int .i64 y.l0, .int .i64 y.l1, .int .i64 y.l2, .string y.image, .int .i64 y.size] 25)).cell? ⟨w.heap.size, 1, none⟩ = some (.int .i64 room.b) ∧ ((w5).alloc (.cells #[.string y.id, .int .i64 y.prio, .bool y.crit, .int .i64 y.q0, .int .i64 y.q1, .int .i64 y.q2, .int .i64 y.l0, .int .i64 y.l1, .int .i64 y.l2, .string y.image, .int .i64 y.size] 25)).cell? ⟨w.heap.size, 2, none⟩ = some (.int .i64 room.c) ∧ ((w5).alloc (.cells #[.string y.id, .int .i64 y.prio, .bool y.crit, .int .i64 y.q0, .int .i64 y.q1, .int .i64 y.q2, .int .i64 y.l0, .int .i64 y.l1, .int .i64 y.l2, .string y.image, .int .i64 y.size] 25)).cell? ⟨w.heap.size + 1, 0, none⟩ = some (.string p.id) ∧ ((w5).alloc (.cells #[.string y.id, .int .i64 y.prio, .bool y.crit, .int .i64 y.q0, .int .i64 y.q1, .int .i64 y.q2, .int .i64 y.l0, .int .i64 y.l1, .int .i64 y.l2, .string y.image, .int .i64 y.size] 25)).cell? ⟨w.heap.size + 1, 1, none⟩ = some (.int .i64 p.prio) ∧ ((w5).alloc (.cells #[.string y.id, .int .i64 y.prio, .bool y.crit, .int .i64 y.q0, .int .i64 y.q1, .int .i64 y.q2, .int .i64 y.l0, .int .i64 y.l1, .int .i64 y.l2, .string y.image, .int .i64 y.size] 25)).cell? ⟨w.heap.size + 1, 2, none⟩ = some (.bool p.crit) ∧ ((w5).alloc (.cells #[.string y.id, .int .i64 y.prio, .bool y.crit, .int .i64 y.q0, .int .i64 y.q1, .int .i64 y.q2, .int .i64 y.l0, .int .i64 y.l1, .int .i64 y.l2, .string y.image, .int .i64 y.size] 25)).cell? ⟨w.heap.size + 1, 3, none⟩ = some (.int .i64 p.q0) ∧ ((w5).alloc (.cells #[.string y.id, .int .i64 y.prio, .bool y.crit, .int .i64 y.q0, .int .i64 y.q1, .int .i64 y.q2, .int .i64 y.l0, .int .i64 y.l1, .int .i64 y.l2, .string y.image, .int .i64 y.size] 25)).cell? ⟨w.heap.size + 1, 4, none⟩ = some (.int .i64 p.q1) ∧ ((w5).alloc (.cells #[.string y.id, .int .i64 y.prio, .bool y.crit, .int .i64 y.q0, .int .i64 y.q1, .int .i64 y.q2, .int .i64 y.l0, .int .i64 y.l1, .int .i64 y.l2, .string y.image, .int .i64 y.size] 25)).cell? ⟨w.heap.size + 1, 5, none⟩ = some (.int .i64 p.q2) ∧ ((w5).alloc (.cells #[.string y.id, .int .i64 y.prio, .bool y.crit, .int .i64 y.q0, .int .i64 y.q1, .int .i64 y.q2, .int .i64 y.l0, .int .i64 y.l1, .int .i64 y.l2, .string y.image, .int .i64 y.size] 25)).cell? ⟨w.heap.size + 1, 6, none⟩ = some (.int .i64 p.l0) ∧ ((w5).alloc (.cells #[.string y.id, .int .i64 y.prio, .bool y.crit, .int .i64 y.q0, .int .i64 y.q1, .int .i64 y.q2, .int .i64 y.l0, .int .i64 y.l1, .int .i64 y.l2, .string y.image, .int .i64 y.size] 25)).cell? ⟨w.heap.size + 1, 7, none⟩ = some (.int .i64 p.l1) ∧ ((w5).alloc (.cells #[.string y.id, .int .i64 y.prio, .bool y.crit, .int .i64 y.q0, .int .i64 y.q1, .int .i64 y.q2, .int .i64 y.l0, .int .i64 y.l1, .int .i64 y.l2, .string y.image, .int .i64 y.size] 25)).cell? ⟨w.heap.size + 1, 8, none⟩ = some (.int .i64 p.l2) ∧ ((w5).alloc (.cells #[.string y.id, .int .i64 y.prio, .bool y.crit, .int .i64 y.q0, .int .i64 y.q1, .int .i64 y.q2, .int .i64 y.l0, .int .i64 y.l1, .int .i64 y.l2, .string y.image, .int .i64 y.size] 25)).cell? ⟨w.heap.size + 1, 9, none⟩ = some (.string p.image) ∧ ((w5).alloc (.cells #[.string y.id, .int .i64 y.prio, .bool y.crit, .int .i64 y.q0, .int .i64 y.q1, .int .i64 y.q2, .int .i64 y.l0, .int .i64 y.l1, .int .i64 y.l2, .string y.image, .int .i64 y.size] 25)).cell? ⟨w.heap.size + 1, 10, none⟩ = some (.int .i64 p.size) ∧ ((w5).alloc (.cells #[.string y.id, .int .i64 y.prio, .bool y.crit, .int .i64 y.q0, .int .i64 y.q1, .int .i64 y.q2, .int .i64 y.l0, .int .i64 y.l1, .int .i64 y.l2, .string y.image, .int .i64 y.size] 25)).cell? ⟨b, off + k * 11, none⟩ = some (.string y.id) ∧ ((w5).alloc (.cells #[.string y.id, .int .i64 y.prio, .bool y.crit, .int .i64 y.q0, .int .i64 y.q1, .int .i64 y.q2, .int .i64 y.l0, .int .i64 y.l1, .int .i64 y.l2, .string y.image, .int .i64 y.size] 25)).cell? ⟨b, off + k * 11 + 1, none⟩ = some (.int .i64 y.prio) ∧ ((w5).alloc (.cells #[.string y.id, .int .i64 y.prio, .bool y.crit, .int .i64 y.q0, .int .i64 y.q1, .int .i64 y.q2, .int .i64 y.l0, .int .i64 y.l1, .int .i64 y.l2, .string y.image, .int .i64 y.size] 25)).cell? ⟨b, off + k * 11 + 2, none⟩ = some (.bool y.crit) ∧ ((w5).alloc (.cells #[.string y.id, .int .i64 y.prio, .bool y.crit, .int .i64 y.q0, .int .i64 y.q1, .int .i64 y.q2, .int .i64 y.l0, .int .i64 y.l1, .int .i64 y.l2, .string y.image, .int .i64 y.size] 25)).cell? ⟨b, off + k * 11 + 3, none⟩ = some (.int .i64 y.q0) ∧ ((w5).alloc (.cells #[.string y.id, .int .i64 y.prio, .bool y.crit, .int .i64 y.q0, .int .i64 y.q1, .int .i64 y.q2, .int .i64 y.l0, .int .i64 y.l1, .int .i64 y.l2, .string y.image, .int .i64 y.size] 25)).cell? ⟨b, off + k * 11 + 4, none⟩ = some (.int .i64 y.q1) ∧ ((w5).alloc (.cells #[.string y.id, .int .i64 y.prio, .bool y.crit, .int .i64 y.q0, .int .i64 y.q1, .int .i64 y.q2, .int .i64 y.l0, .int .i64 y.l1, .int .i64 y.l2, .string y.image, .int .i64 y.size] 25)).cell? ⟨b, off + k * 11 + 5, none⟩ = some (.int .i64 y.q2) ∧ ((w5).alloc (.cells #[.string y.id, .int .i64 y.prio, .bool y.crit, .int .i64 y.q0, .int .i64 y.q1, .int .i64 y.q2, .int .i64 y.l0, .int .i64 y.l1, .int .i64 y.l2, .string y.image, .int .i64 y.size] 25)).cell? ⟨b, off + k * 11 + 6, none⟩ = some (.int .i64 y.l0) ∧ ((w5).alloc (.cells #[.string y.id, .int .i64 y.prio, .bool y.crit, .int .i64 y.q0, .int .i64 y.q1, .int .i64 y.q2, .int .i64 y.l0, .int .i64 y.l1, .int .i64 y.l2, .string y.image, .int .i64 y.size] 25)).cell? ⟨b, off + k * 11 + 7, none⟩ = some (.int .i64 y.l1) ∧ ((w5).alloc (.cells #[.string y.id, .int .i64 y.prio, .bool y.crit, .int .i64 y.q0, .int .i64 y.q1, .int .i64 y.q2, .int .i64 y.l0, .int .i64 y.l1, .int .i64 y.l2, .string y.image, .int .i64 y.size] 25)).cell? ⟨b, off + k * 11 + 8, none⟩ = some (.int .i64 y.l2) ∧ ((w5).alloc (.cells #[.string y.id, .int .i64 y.prio, .bool y.crit, .int .i64 y.q0, .int .i64 y.q1, .int .i64 y.q2, .int .i64 y.l0, .int .i64 y.l1, .int .i64 y.l2, .string y.image, .int .i64 y.size] 25)).cell? ⟨b, off + k * 11 + 9, none⟩ = some (.string y.image) ∧ ((w5).alloc (.cells #[.string y.id, .int .i64 y.prio, .bool y.crit, .int .i64 y.q0, .int .i64 y.q1, .int .i64 y.q2, .int .i64 y.l0, .int .i64 y.l1, .int .i64 y.l2, .string y.image, .int .i64 y.size] 25)).cell? ⟨b, off + k * 11 + 10, none⟩ = some (.int .i64 y.size) from spCells HQ.out HRi.out HYK.out)
                        clear hK K
                        simp only [Act.put, List.setIfInBounds_toArray, List.set_cons_zero, List.set_cons_succ]
                        refine held_call 30 122 rfl rfl (by kernel_rfl) (by rfl) (fun K hK => ?_)
                        refine wp_app (w5.alloc (.cells #[.string y.id, .int .i64 y.prio, .bool y.crit, .int .i64 y.q0, .int .i64 y.q1, .int .i64 y.q2, .int .i64 y.l0, .int .i64 y.l1, .int .i64 y.l2, .string y.image, .int .i64 y.size] 25)) elemP encP (.tmp 116) (.tmp 121) rfl wd.heap.size _ ST (by simp [Act.eval]) HOW.out _ [y] 1 (by simp [Act.eval]) HRW.out (by simp; omega) (by simp; omega) HB.out.size ?_
                        intro A7 c7 w7 ho hg _
                        have hb7 := HOW.out.belowGrown HB.out hg (Nat.le_refl _) HB.out.size
                        have HOW := Lib.hid ho
                        have HB := Lib.hid hb7
                        clear ho hg hb7
                        have HQ := Lib.hid (HQd.out.below HB.out)
                        have HRi := Lib.hid (HRd.out.below HB.out)
                        refine hK _ _ (spCells HQ.out HRi.out HYK.out) ?_
                        have hHeld := (show w7.cell? ⟨w.heap.size, 0, none⟩ = some (.int .i64 room.a) ∧ w7.cell? ⟨w.heap.size, 1, none⟩ = some (.int .i64 room.b) ∧ w7.cell? ⟨w.heap.size, 2, none⟩ = some (.int .i64 room.c) ∧ w7.cell? ⟨w.heap.size + 1, 0, none⟩ = some (.string p.id) ∧ w7.cell? ⟨w.heap.size + 1, 1, none⟩ = some (.int .i64 p.prio) ∧ w7.cell? ⟨w.heap.size + 1, 2, none⟩ = some (.bool p.crit) ∧ w7.cell? ⟨w.heap.size + 1, 3, none⟩ = some (.int .i64 p.q0) ∧ w7.cell? ⟨w.heap.size + 1, 4, none⟩ = some (.int .i64 p.q1) ∧ w7.cell? ⟨w.heap.size + 1, 5, none⟩ = some (.int .i64 p.q2) ∧ w7.cell? ⟨w.heap.size + 1, 6, none⟩ = some (.int .i64 p.l0) ∧ w7.cell? ⟨w.heap.size + 1, 7, none⟩ = some (.int .i64 p.l1) ∧ w7.cell? ⟨w.heap.size + 1, 8, none⟩ = some (.int .i64 p.l2) ∧ w7.cell? ⟨w.heap.size + 1, 9, none⟩ = some (.string p.image) ∧ w7.cell? ⟨w.heap.size + 1, 10, none⟩ = some (.int .i64 p.size) ∧ w7.cell? ⟨b, off + k * 11, none⟩ = some (.string y.id) ∧ w7.cell? ⟨b, off + k * 11 + 1, none⟩ = some (.int .i64 y.prio) ∧ w7.cell? ⟨b, off + k * 11 + 2, none⟩ = some (.bool y.crit) ∧ w7.cell? ⟨b, off + k * 11 + 3, none⟩ = some (.int .i64 y.q0) ∧ w7.cell? ⟨b, off + k * 11 + 4, none⟩ = some (.int .i64 y.q1) ∧ w7.cell? ⟨b, off + k * 11 + 5, none⟩ = some (.int .i64 y.q2) ∧ w7.cell? ⟨b, off + k * 11 + 6, none⟩ = some (.int .i64 y.l0) ∧ w7.cell? ⟨b, off + k * 11 + 7, none⟩ = some (.int .i64 y.l1) ∧ w7.cell? ⟨b, off + k * 11 + 8, none⟩ = some (.int .i64 y.l2) ∧ w7.cell? ⟨b, off + k * 11 + 9, none⟩ = some (.string y.image) ∧ w7.cell? ⟨b, off + k * 11 + 10, none⟩ = some (.int .i64 y.size) from spCells HQ.out HRi.out HYK.out)
                        clear hK K
                        simp only [Act.put, List.setIfInBounds_toArray, List.set_cons_zero, List.set_cons_succ]
                        refine held_call 31 123 rfl rfl (by kernel_rfl) (by rfl) (fun K hK => ?_)
                        go_simp
                        have HO7 := Lib.hid (show Rds w7 encP A7 (ST ++ [y]) from HOW.out.toRds)
                        go_at_call 18; with_reducible refine (fitsN (show ST.length + 1 = (ST ++ [y]).length by simp) HFY.out HO7.out HWY.out (by simp; omega)).mono ?_; rintro e w9 ⟨rfl, hb⟩
                        have HB := Lib.hid (below_rV HB.out hb)
                        have HQ := Lib.hid (HQd.out.below HB.out)
                        have HRi := Lib.hid (HRd.out.below HB.out)
                        clear hb
                        refine hK _ _ (spCells HQ.out HRi.out HYK.out) ?_
                        have hHeld := (show w9.cell? ⟨w.heap.size, 0, none⟩ = some (.int .i64 room.a) ∧ w9.cell? ⟨w.heap.size, 1, none⟩ = some (.int .i64 room.b) ∧ w9.cell? ⟨w.heap.size, 2, none⟩ = some (.int .i64 room.c) ∧ w9.cell? ⟨w.heap.size + 1, 0, none⟩ = some (.string p.id) ∧ w9.cell? ⟨w.heap.size + 1, 1, none⟩ = some (.int .i64 p.prio) ∧ w9.cell? ⟨w.heap.size + 1, 2, none⟩ = some (.bool p.crit) ∧ w9.cell? ⟨w.heap.size + 1, 3, none⟩ = some (.int .i64 p.q0) ∧ w9.cell? ⟨w.heap.size + 1, 4, none⟩ = some (.int .i64 p.q1) ∧ w9.cell? ⟨w.heap.size + 1, 5, none⟩ = some (.int .i64 p.q2) ∧ w9.cell? ⟨w.heap.size + 1, 6, none⟩ = some (.int .i64 p.l0) ∧ w9.cell? ⟨w.heap.size + 1, 7, none⟩ = some (.int .i64 p.l1) ∧ w9.cell? ⟨w.heap.size + 1, 8, none⟩ = some (.int .i64 p.l2) ∧ w9.cell? ⟨w.heap.size + 1, 9, none⟩ = some (.string p.image) ∧ w9.cell? ⟨w.heap.size + 1, 10, none⟩ = some (.int .i64 p.size) ∧ w9.cell? ⟨b, off + k * 11, none⟩ = some (.string y.id) ∧ w9.cell? ⟨b, off + k * 11 + 1, none⟩ = some (.int .i64 y.prio) ∧ w9.cell? ⟨b, off + k * 11 + 2, none⟩ = some (.bool y.crit) ∧ w9.cell? ⟨b, off + k * 11 + 3, none⟩ = some (.int .i64 y.q0) ∧ w9.cell? ⟨b, off + k * 11 + 4, none⟩ = some (.int .i64 y.q1) ∧ w9.cell? ⟨b, off + k * 11 + 5, none⟩ = some (.int .i64 y.q2) ∧ w9.cell? ⟨b, off + k * 11 + 6, none⟩ = some (.int .i64 y.l0) ∧ w9.cell? ⟨b, off + k * 11 + 7, none⟩ = some (.int .i64 y.l1) ∧ w9.cell? ⟨b, off + k * 11 + 8, none⟩ = some (.int .i64 y.l2) ∧ w9.cell? ⟨b, off + k * 11 + 9, none⟩ = some (.string y.image) ∧ w9.cell? ⟨b, off + k * 11 + 10, none⟩ = some (.int .i64 y.size) from spCells HQ.out HRi.out HYK.out)
                        clear hK K
                        simp only [Act.put, List.setIfInBounds_toArray, List.set_cons_zero, List.set_cons_succ]
                        refine held_take 32 124 (.bool true) rfl rfl (by kernel_rfl) (by kernel_rfl) (by kernel_rfl) (fun _ _ _ h => h) (by rfl) (by intro w' hSw; (try dsimp only at hSw); go_simp; (try (with_reducible rfl))) (by assumption) ?_
                        simp only [Act.put, List.setIfInBounds_toArray, List.set_cons_zero, List.set_cons_succ]
                        refine held_take 33 125 (.bool true) rfl rfl (by kernel_rfl) (by kernel_rfl) (by kernel_rfl) (fun _ _ _ h => h) (by rfl) (by intro w' hSw; (try dsimp only at hSw); go_simp; (try (with_reducible rfl))) (by assumption) ?_
                        simp only [Act.put, List.setIfInBounds_toArray, List.set_cons_zero, List.set_cons_succ]
                        refine held_take 34 11 (.bool true) rfl rfl (by kernel_rfl) (by kernel_rfl) (by kernel_rfl) (fun _ _ _ h => h) (by rfl) (by intro w' hSw; (try dsimp only at hSw); go_simp; (try (with_reducible rfl))) (by assumption) ?_
                        simp only [Act.put, List.setIfInBounds_toArray, List.set_cons_zero, List.set_cons_succ]
                        refine wpAnyH_done (by kernel_rfl) ?_ _
                        clear hHeld
                        go_wp2_with fail
                        go_roundw
                        case rel => exact ⟨k + 1, by omega, HN.out, by go_num, below_rV HQB.out HB.out⟩
                        case measure => simp [intOf]; omega
                      · go_simp
                        have hrw := Rds.made (wd.alloc (.cells #[] 25)) encP [y] 25 #[.string y.id, .int .i64 y.prio, .bool y.crit, .int .i64 y.q0, .int .i64 y.q1, .int .i64 y.q2, .int .i64 y.l0, .int .i64 y.l1, .int .i64 y.l2, .string y.image, .int .i64 y.size] (0, 0) rfl
                        rw [show (wd.alloc (.cells #[] 25)).heap.size = wd.heap.size + 1 from by simp] at hrw
                        have HOW := Lib.hid (HOW.out.alloc (.cells #[.string y.id, .int .i64 y.prio, .bool y.crit, .int .i64 y.q0, .int .i64 y.q1, .int .i64 y.q2, .int .i64 y.l0, .int .i64 y.l1, .int .i64 y.l2, .string y.image, .int .i64 y.size] 25))
                        have HRW := Lib.hid hrw
                        clear hrw
                        have HB := Lib.hid (HB.out.alloc HB.out.size (.cells #[.string y.id, .int .i64 y.prio, .bool y.crit, .int .i64 y.q0, .int .i64 y.q1, .int .i64 y.q2, .int .i64 y.l0, .int .i64 y.l1, .int .i64 y.l2, .string y.image, .int .i64 y.size] 25))
                        have HQ := Lib.hid (HQd.out.below HB.out)
                        have HRi := Lib.hid (HRd.out.below HB.out)
                        refine hK _ _ (spCells HQ.out HRi.out HYK.out) ?_
                        have hHeld := (show ((wd.alloc (.cells #[] 25)).alloc (.cells #[.string y.id, .int .i64 y.prio, .bool y.crit, .int .i64 y.q0, .int .i64 y.q1, .int .i64 y.q2, .int .i64 y.l0, .int .i64 y.l1, .int .i64 y.l2, .string y.image, .int .i64 y.size] 25)).cell? ⟨w.heap.size, 0, none⟩ = some (.int .i64 room.a) ∧ ((wd.alloc (.cells #[] 25)).alloc (.cells #[.string y.id, .int .i64 y.prio, .bool y.crit, .int .i64 y.q0, .int .i64 y.q1, .int .i64 y.q2, .int .i64 y.l0, .int .i64 y.l1, .int .i64 y.l2, .string y.image, .int .i64 y.size] 25)).cell? ⟨w.heap.size, 1, none⟩ = some (.int .i64 room.b) ∧ ((wd.alloc (.cells #[] 25)).alloc (.cells #[.string y.id, .int .i64 y.prio, .bool y.crit, .int .i64 y.q0, .int .i64 y.q1, .int .i64 y.q2, .int .i64 y.l0, .int .i64 y.l1, .int .i64 y.l2, .string y.image, .int .i64 y.size] 25)).cell? ⟨w.heap.size, 2, none⟩ = some (.int .i64 room.c) ∧ ((wd.alloc (.cells #[] 25)).alloc (.cells #[.string y.id, .int .i64 y.prio, .bool y.crit, .int .i64 y.q0, .int .i64 y.q1, .int .i64 y.q2, .int .i64 y.l0, .int .i64 y.l1, .int .i64 y.l2, .string y.image, .int .i64 y.size] 25)).cell? ⟨w.heap.size + 1, 0, none⟩ = some (.string p.id) ∧ ((wd.alloc (.cells #[] 25)).alloc (.cells #[.string y.id, .int .i64 y.prio, .bool y.crit, .int .i64 y.q0, .int .i64 y.q1, .int .i64 y.q2, .int .i64 y.l0, .int .i64 y.l1, .int .i64 y.l2, .string y.image, .int .i64 y.size] 25)).cell? ⟨w.heap.size + 1, 1, none⟩ = some (.int .i64 p.prio) ∧ ((wd.alloc (.cells #[] 25)).alloc (.cells #[.string y.id, .int .i64 y.prio, .bool y.crit, .int .i64 y.q0, .int .i64 y.q1, .int .i64 y.q2, .int .i64 y.l0, .int .i64 y.l1, .int .i64 y.l2, .string y.image, .int .i64 y.size] 25)).cell? ⟨w.heap.size + 1, 2, none⟩ = some (.bool p.crit) ∧ ((wd.alloc (.cells #[] 25)).alloc (.cells #[.string y.id, .int .i64 y.prio, .bool y.crit, .int .i64 y.q0, .int .i64 y.q1, .int .i64 y.q2, .int .i64 y.l0, .int .i64 y.l1, .int .i64 y.l2, .string y.image, .int .i64 y.size] 25)).cell? ⟨w.heap.size + 1, 3, none⟩ = some (.int .i64 p.q0) ∧ ((wd.alloc (.cells #[] 25)).alloc (.cells #[.string y.id, .int .i64 y.prio, .bool y.crit, .int .i64 y.q0, .int .i64 y.q1, .int .i64 y.q2, .int .i64 y.l0, .int .i64 y.l1, .int .i64 y.l2, .string y.image, .int .i64 y.size] 25)).cell? ⟨w.heap.size + 1, 4, none⟩ = some (.int .i64 p.q1) ∧ ((wd.alloc (.cells #[] 25)).alloc (.cells #[.string y.id, .int .i64 y.prio, .bool y.crit, .int .i64 y.q0, .int .i64 y.q1, .int .i64 y.q2, .int .i64 y.l0, .int .i64 y.l1, .int .i64 y.l2, .string y.image, .int .i64 y.size] 25)).cell? ⟨w.heap.size + 1, 5, none⟩ = some (.int .i64 p.q2) ∧ ((wd.alloc (.cells #[] 25)).alloc (.cells #[.string y.id, .int .i64 y.prio, .bool y.crit, .int .i64 y.q0, .int .i64 y.q1, .int .i64 y.q2, .int .i64 y.l0, .int .i64 y.l1, .int .i64 y.l2, .string y.image, .int .i64 y.size] 25)).cell? ⟨w.heap.size + 1, 6, none⟩ = some (.int .i64 p.l0) ∧ ((wd.alloc (.cells #[] 25)).alloc (.cells #[.string y.id, .int .i64 y.prio, .bool y.crit, .int .i64 y.q0, .int .i64 y.q1, .int .i64 y.q2, .int .i64 y.l0, .int .i64 y.l1, .int .i64 y.l2, .string y.image, .int .i64 y.size] 25)).cell? ⟨w.heap.size + 1, 7, none⟩ = some (.int .i64 p.l1) ∧ ((wd.alloc (.cells #[] 25)).alloc (.cells #[.string y.id, .int .i64 y.prio, .bool y.crit, .int .i64 y.q0, .int .i64 y.q1, .int .i64 y.q2, .int .i64 y.l0, .int .i64 y.l1, .int .i64 y.l2, .string y.image, .int .i64 y.size] 25)).cell? ⟨w.heap.size + 1, 8, none⟩ = some (.int .i64 p.l2) ∧ ((wd.alloc (.cells #[] 25)).alloc (.cells #[.string y.id, .int .i64 y.prio, .bool y.crit, .int .i64 y.q0, .int .i64 y.q1, .int .i64 y.q2, .int .i64 y.l0, .int .i64 y.l1, .int .i64 y.l2, .string y.image, .int .i64 y.size] 25)).cell? ⟨w.heap.size + 1, 9, none⟩ = some (.string p.image) ∧ ((wd.alloc (.cells #[] 25)).alloc (.cells #[.string y.id, .int .i64 y.prio, .bool y.crit, .int .i64 y.q0, .int .i64 y.q1, .int .i64 y.q2, .int .i64 y.l0, .int .i64 y.l1, .int .i64 y.l2, .string y.image, .int .i64 y.size] 25)).cell? ⟨w.heap.size + 1, 10, none⟩ = some (.int .i64 p.size) ∧ ((wd.alloc (.cells #[] 25)).alloc (.cells #[.string y.id, .int .i64 y.prio, .bool y.crit, .int .i64 y.q0, .int .i64 y.q1, .int .i64 y.q2, .int .i64 y.l0, .int .i64 y.l1, .int .i64 y.l2, .string y.image, .int .i64 y.size] 25)).cell? ⟨b, off + k * 11, none⟩ = some (.string y.id) ∧ ((wd.alloc (.cells #[] 25)).alloc (.cells #[.string y.id, .int .i64 y.prio, .bool y.crit, .int .i64 y.q0, .int .i64 y.q1, .int .i64 y.q2, .int .i64 y.l0, .int .i64 y.l1, .int .i64 y.l2, .string y.image, .int .i64 y.size] 25)).cell? ⟨b, off + k * 11 + 1, none⟩ = some (.int .i64 y.prio) ∧ ((wd.alloc (.cells #[] 25)).alloc (.cells #[.string y.id, .int .i64 y.prio, .bool y.crit, .int .i64 y.q0, .int .i64 y.q1, .int .i64 y.q2, .int .i64 y.l0, .int .i64 y.l1, .int .i64 y.l2, .string y.image, .int .i64 y.size] 25)).cell? ⟨b, off + k * 11 + 2, none⟩ = some (.bool y.crit) ∧ ((wd.alloc (.cells #[] 25)).alloc (.cells #[.string y.id, .int .i64 y.prio, .bool y.crit, .int .i64 y.q0, .int .i64 y.q1, .int .i64 y.q2, .int .i64 y.l0, .int .i64 y.l1, .int .i64 y.l2, .string y.image, .int .i64 y.size] 25)).cell? ⟨b, off + k * 11 + 3, none⟩ = some (.int .i64 y.q0) ∧ ((wd.alloc (.cells #[] 25)).alloc (.cells #[.string y.id, .int .i64 y.prio, .bool y.crit, .int .i64 y.q0, .int .i64 y.q1, .int .i64 y.q2, .int .i64 y.l0, .int .i64 y.l1, .int .i64 y.l2, .string y.image, .int .i64 y.size] 25)).cell? ⟨b, off + k * 11 + 4, none⟩ = some (.int .i64 y.q1) ∧ ((wd.alloc (.cells #[] 25)).alloc (.cells #[.string y.id, .int .i64 y.prio, .bool y.crit, .int .i64 y.q0, .int .i64 y.q1, .int .i64 y.q2, .int .i64 y.l0, .int .i64 y.l1, .int .i64 y.l2, .string y.image, .int .i64 y.size] 25)).cell? ⟨b, off + k * 11 + 5, none⟩ = some (.int .i64 y.q2) ∧ ((wd.alloc (.cells #[] 25)).alloc (.cells #[.string y.id, .int .i64 y.prio, .bool y.crit, .int .i64 y.q0, .int .i64 y.q1, .int .i64 y.q2, .int .i64 y.l0, .int .i64 y.l1, .int .i64 y.l2, .string y.image, .int .i64 y.size] 25)).cell? ⟨b, off + k * 11 + 6, none⟩ = some (.int .i64 y.l0) ∧ ((wd.alloc (.cells #[] 25)).alloc (.cells #[.string y.id, .int .i64 y.prio, .bool y.crit, .int .i64 y.q0, .int .i64 y.q1, .int .i64 y.q2, .int .i64 y.l0, .int .i64 y.l1, .int .i64 y.l2, .string y.image, .int .i64 y.size] 25)).cell? ⟨b, off + k * 11 + 7, none⟩ = some (.int .i64 y.l1) ∧ ((wd.alloc (.cells #[] 25)).alloc (.cells #[.string y.id, .int .i64 y.prio, .bool y.crit, .int .i64 y.q0, .int .i64 y.q1, .int .i64 y.q2, .int .i64 y.l0, .int .i64 y.l1, .int .i64 y.l2, .string y.image, .int .i64 y.size] 25)).cell? ⟨b, off + k * 11 + 8, none⟩ = some (.int .i64 y.l2) ∧ ((wd.alloc (.cells #[] 25)).alloc (.cells #[.string y.id, .int .i64 y.prio, .bool y.crit, .int .i64 y.q0, .int .i64 y.q1, .int .i64 y.q2, .int .i64 y.l0, .int .i64 y.l1, .int .i64 y.l2, .string y.image, .int .i64 y.size] 25)).cell? ⟨b, off + k * 11 + 9, none⟩ = some (.string y.image) ∧ ((wd.alloc (.cells #[] 25)).alloc (.cells #[.string y.id, .int .i64 y.prio, .bool y.crit, .int .i64 y.q0, .int .i64 y.q1, .int .i64 y.q2, .int .i64 y.l0, .int .i64 y.l1, .int .i64 y.l2, .string y.image, .int .i64 y.size] 25)).cell? ⟨b, off + k * 11 + 10, none⟩ = some (.int .i64 y.size) from spCells HQ.out HRi.out HYK.out)
                        clear hK K
                        simp only [Act.put, List.setIfInBounds_toArray, List.set_cons_zero, List.set_cons_succ]
                        refine held_call 24 116 rfl rfl (by kernel_rfl) (by rfl) (fun K hK => ?_)
                        refine wp_app ((wd.alloc (.cells #[] 25)).alloc (.cells #[.string y.id, .int .i64 y.prio, .bool y.crit, .int .i64 y.q0, .int .i64 y.q1, .int .i64 y.q2, .int .i64 y.l0, .int .i64 y.l1, .int .i64 y.l2, .string y.image, .int .i64 y.size] 25)) elemP encP (.tmp 114) (.tmp 115) rfl wd.heap.size _ [] (by simp [Act.eval]) HOW.out As ST cs (by simp [Act.eval]) (HSd.out.below (HB.out.mono (by simp))) (by simp; omega) (by simp; omega) HB.out.size ?_
                        intro A5 c5 w5 ho hg _
                        have hb5 := HOW.out.belowGrown HB.out hg (Nat.le_refl _) HB.out.size
                        have HRW := Lib.hid (HRW.out.grownN hg (by simp [Value.ownBlock]))
                        have how : Own w5 wd.heap.size 25 encP (.slice A5 (ST).length c5) ST := by simpa using ho
                        have HOW := Lib.hid how
                        have HB := Lib.hid hb5
                        clear ho how hg hb5
                        have HQ := Lib.hid (HQd.out.below HB.out)
                        have HRi := Lib.hid (HRd.out.below HB.out)
                        simp only [List.length_nil, Nat.zero_add]
                        refine hK _ _ (spCells HQ.out HRi.out HYK.out) ?_
                        have hHeld := (show w5.cell? ⟨w.heap.size, 0, none⟩ = some (.int .i64 room.a) ∧ w5.cell? ⟨w.heap.size, 1, none⟩ = some (.int .i64 room.b) ∧ w5.cell? ⟨w.heap.size, 2, none⟩ = some (.int .i64 room.c) ∧ w5.cell? ⟨w.heap.size + 1, 0, none⟩ = some (.string p.id) ∧ w5.cell? ⟨w.heap.size + 1, 1, none⟩ = some (.int .i64 p.prio) ∧ w5.cell? ⟨w.heap.size + 1, 2, none⟩ = some (.bool p.crit) ∧ w5.cell? ⟨w.heap.size + 1, 3, none⟩ = some (.int .i64 p.q0) ∧ w5.cell? ⟨w.heap.size + 1, 4, none⟩ = some (.int .i64 p.q1) ∧ w5.cell? ⟨w.heap.size + 1, 5, none⟩ = some (.int .i64 p.q2) ∧ w5.cell? ⟨w.heap.size + 1, 6, none⟩ = some (.int .i64 p.l0) ∧ w5.cell? ⟨w.heap.size + 1, 7, none⟩ = some (.int .i64 p.l1) ∧ w5.cell? ⟨w.heap.size + 1, 8, none⟩ = some (.int .i64 p.l2) ∧ w5.cell? ⟨w.heap.size + 1, 9, none⟩ = some (.string p.image) ∧ w5.cell? ⟨w.heap.size + 1, 10, none⟩ = some (.int .i64 p.size) ∧ w5.cell? ⟨b, off + k * 11, none⟩ = some (.string y.id) ∧ w5.cell? ⟨b, off + k * 11 + 1, none⟩ = some (.int .i64 y.prio) ∧ w5.cell? ⟨b, off + k * 11 + 2, none⟩ = some (.bool y.crit) ∧ w5.cell? ⟨b, off + k * 11 + 3, none⟩ = some (.int .i64 y.q0) ∧ w5.cell? ⟨b, off + k * 11 + 4, none⟩ = some (.int .i64 y.q1) ∧ w5.cell? ⟨b, off + k * 11 + 5, none⟩ = some (.int .i64 y.q2) ∧ w5.cell? ⟨b, off + k * 11 + 6, none⟩ = some (.int .i64 y.l0) ∧ w5.cell? ⟨b, off + k * 11 + 7, none⟩ = some (.int .i64 y.l1) ∧ w5.cell? ⟨b, off + k * 11 + 8, none⟩ = some (.int .i64 y.l2) ∧ w5.cell? ⟨b, off + k * 11 + 9, none⟩ = some (.string y.image) ∧ w5.cell? ⟨b, off + k * 11 + 10, none⟩ = some (.int .i64 y.size) from spCells HQ.out HRi.out HYK.out)
                        clear hK K
                        simp only [Act.put, List.setIfInBounds_toArray, List.set_cons_zero, List.set_cons_succ]
                        refine held_call 30 122 rfl rfl (by kernel_rfl) (by rfl) (fun K hK => ?_)
                        refine wp_app (w5) elemP encP (.tmp 116) (.tmp 121) rfl wd.heap.size _ ST (by simp [Act.eval]) HOW.out _ [y] 1 (by simp [Act.eval]) HRW.out (by simp; omega) (by simp; omega) HB.out.size ?_
                        intro A7 c7 w7 ho hg _
                        have hb7 := HOW.out.belowGrown HB.out hg (Nat.le_refl _) HB.out.size
                        have HOW := Lib.hid ho
                        have HB := Lib.hid hb7
                        clear ho hg hb7
                        have HQ := Lib.hid (HQd.out.below HB.out)
                        have HRi := Lib.hid (HRd.out.below HB.out)
                        refine hK _ _ (spCells HQ.out HRi.out HYK.out) ?_
                        have hHeld := (show w7.cell? ⟨w.heap.size, 0, none⟩ = some (.int .i64 room.a) ∧ w7.cell? ⟨w.heap.size, 1, none⟩ = some (.int .i64 room.b) ∧ w7.cell? ⟨w.heap.size, 2, none⟩ = some (.int .i64 room.c) ∧ w7.cell? ⟨w.heap.size + 1, 0, none⟩ = some (.string p.id) ∧ w7.cell? ⟨w.heap.size + 1, 1, none⟩ = some (.int .i64 p.prio) ∧ w7.cell? ⟨w.heap.size + 1, 2, none⟩ = some (.bool p.crit) ∧ w7.cell? ⟨w.heap.size + 1, 3, none⟩ = some (.int .i64 p.q0) ∧ w7.cell? ⟨w.heap.size + 1, 4, none⟩ = some (.int .i64 p.q1) ∧ w7.cell? ⟨w.heap.size + 1, 5, none⟩ = some (.int .i64 p.q2) ∧ w7.cell? ⟨w.heap.size + 1, 6, none⟩ = some (.int .i64 p.l0) ∧ w7.cell? ⟨w.heap.size + 1, 7, none⟩ = some (.int .i64 p.l1) ∧ w7.cell? ⟨w.heap.size + 1, 8, none⟩ = some (.int .i64 p.l2) ∧ w7.cell? ⟨w.heap.size + 1, 9, none⟩ = some (.string p.image) ∧ w7.cell? ⟨w.heap.size + 1, 10, none⟩ = some (.int .i64 p.size) ∧ w7.cell? ⟨b, off + k * 11, none⟩ = some (.string y.id) ∧ w7.cell? ⟨b, off + k * 11 + 1, none⟩ = some (.int .i64 y.prio) ∧ w7.cell? ⟨b, off + k * 11 + 2, none⟩ = some (.bool y.crit) ∧ w7.cell? ⟨b, off + k * 11 + 3, none⟩ = some (.int .i64 y.q0) ∧ w7.cell? ⟨b, off + k * 11 + 4, none⟩ = some (.int .i64 y.q1) ∧ w7.cell? ⟨b, off + k * 11 + 5, none⟩ = some (.int .i64 y.q2) ∧ w7.cell? ⟨b, off + k * 11 + 6, none⟩ = some (.int .i64 y.l0) ∧ w7.cell? ⟨b, off + k * 11 + 7, none⟩ = some (.int .i64 y.l1) ∧ w7.cell? ⟨b, off + k * 11 + 8, none⟩ = some (.int .i64 y.l2) ∧ w7.cell? ⟨b, off + k * 11 + 9, none⟩ = some (.string y.image) ∧ w7.cell? ⟨b, off + k * 11 + 10, none⟩ = some (.int .i64 y.size) from spCells HQ.out HRi.out HYK.out)
                        clear hK K
                        simp only [Act.put, List.setIfInBounds_toArray, List.set_cons_zero, List.set_cons_succ]
                        refine held_call 31 123 rfl rfl (by kernel_rfl) (by rfl) (fun K hK => ?_)
                        go_simp
                        have HO7 := Lib.hid (show Rds w7 encP A7 (ST ++ [y]) from HOW.out.toRds)
                        go_at_call 18; with_reducible refine (fitsN (show ST.length + 1 = (ST ++ [y]).length by simp) HFY.out HO7.out HWY.out (by simp; omega)).mono ?_; rintro e w9 ⟨rfl, hb⟩
                        have HB := Lib.hid (below_rV HB.out hb)
                        have HQ := Lib.hid (HQd.out.below HB.out)
                        have HRi := Lib.hid (HRd.out.below HB.out)
                        clear hb
                        refine hK _ _ (spCells HQ.out HRi.out HYK.out) ?_
                        have hHeld := (show w9.cell? ⟨w.heap.size, 0, none⟩ = some (.int .i64 room.a) ∧ w9.cell? ⟨w.heap.size, 1, none⟩ = some (.int .i64 room.b) ∧ w9.cell? ⟨w.heap.size, 2, none⟩ = some (.int .i64 room.c) ∧ w9.cell? ⟨w.heap.size + 1, 0, none⟩ = some (.string p.id) ∧ w9.cell? ⟨w.heap.size + 1, 1, none⟩ = some (.int .i64 p.prio) ∧ w9.cell? ⟨w.heap.size + 1, 2, none⟩ = some (.bool p.crit) ∧ w9.cell? ⟨w.heap.size + 1, 3, none⟩ = some (.int .i64 p.q0) ∧ w9.cell? ⟨w.heap.size + 1, 4, none⟩ = some (.int .i64 p.q1) ∧ w9.cell? ⟨w.heap.size + 1, 5, none⟩ = some (.int .i64 p.q2) ∧ w9.cell? ⟨w.heap.size + 1, 6, none⟩ = some (.int .i64 p.l0) ∧ w9.cell? ⟨w.heap.size + 1, 7, none⟩ = some (.int .i64 p.l1) ∧ w9.cell? ⟨w.heap.size + 1, 8, none⟩ = some (.int .i64 p.l2) ∧ w9.cell? ⟨w.heap.size + 1, 9, none⟩ = some (.string p.image) ∧ w9.cell? ⟨w.heap.size + 1, 10, none⟩ = some (.int .i64 p.size) ∧ w9.cell? ⟨b, off + k * 11, none⟩ = some (.string y.id) ∧ w9.cell? ⟨b, off + k * 11 + 1, none⟩ = some (.int .i64 y.prio) ∧ w9.cell? ⟨b, off + k * 11 + 2, none⟩ = some (.bool y.crit) ∧ w9.cell? ⟨b, off + k * 11 + 3, none⟩ = some (.int .i64 y.q0) ∧ w9.cell? ⟨b, off + k * 11 + 4, none⟩ = some (.int .i64 y.q1) ∧ w9.cell? ⟨b, off + k * 11 + 5, none⟩ = some (.int .i64 y.q2) ∧ w9.cell? ⟨b, off + k * 11 + 6, none⟩ = some (.int .i64 y.l0) ∧ w9.cell? ⟨b, off + k * 11 + 7, none⟩ = some (.int .i64 y.l1) ∧ w9.cell? ⟨b, off + k * 11 + 8, none⟩ = some (.int .i64 y.l2) ∧ w9.cell? ⟨b, off + k * 11 + 9, none⟩ = some (.string y.image) ∧ w9.cell? ⟨b, off + k * 11 + 10, none⟩ = some (.int .i64 y.size) from spCells HQ.out HRi.out HYK.out)
                        clear hK K
                        simp only [Act.put, List.setIfInBounds_toArray, List.set_cons_zero, List.set_cons_succ]
                        refine held_take 32 124 (.bool true) rfl rfl (by kernel_rfl) (by kernel_rfl) (by kernel_rfl) (fun _ _ _ h => h) (by rfl) (by intro w' hSw; (try dsimp only at hSw); go_simp; (try (with_reducible rfl))) (by assumption) ?_
                        simp only [Act.put, List.setIfInBounds_toArray, List.set_cons_zero, List.set_cons_succ]
                        refine held_take 33 125 (.bool true) rfl rfl (by kernel_rfl) (by kernel_rfl) (by kernel_rfl) (fun _ _ _ h => h) (by rfl) (by intro w' hSw; (try dsimp only at hSw); go_simp; (try (with_reducible rfl))) (by assumption) ?_
                        simp only [Act.put, List.setIfInBounds_toArray, List.set_cons_zero, List.set_cons_succ]
                        refine held_take 34 11 (.bool true) rfl rfl (by kernel_rfl) (by kernel_rfl) (by kernel_rfl) (fun _ _ _ h => h) (by rfl) (by intro w' hSw; (try dsimp only at hSw); go_simp; (try (with_reducible rfl))) (by assumption) ?_
                        simp only [Act.put, List.setIfInBounds_toArray, List.set_cons_zero, List.set_cons_succ]
                        refine wpAnyH_done (by kernel_rfl) ?_ _
                        clear hHeld
                        go_wp2_with fail
                        go_roundw
                        case rel => exact ⟨k + 1, by omega, HN.out, by go_num, below_rV HQB.out HB.out⟩
                        case measure => simp [intOf]; omega
                    · go_simp
                      have hrw := Rds.made (wd) encP [y] 25 #[.string y.id, .int .i64 y.prio, .bool y.crit, .int .i64 y.q0, .int .i64 y.q1, .int .i64 y.q2, .int .i64 y.l0, .int .i64 y.l1, .int .i64 y.l2, .string y.image, .int .i64 y.size] (0, 0) rfl
                      have HRW := Lib.hid hrw
                      clear hrw
                      have HB := Lib.hid (HB.out.alloc HB.out.size (.cells #[.string y.id, .int .i64 y.prio, .bool y.crit, .int .i64 y.q0, .int .i64 y.q1, .int .i64 y.q2, .int .i64 y.l0, .int .i64 y.l1, .int .i64 y.l2, .string y.image, .int .i64 y.size] 25))
                      have HQ := Lib.hid (HQd.out.below HB.out)
                      have HRi := Lib.hid (HRd.out.below HB.out)
                      refine hK _ _ (spCells HQ.out HRi.out HYK.out) ?_
                      have hHeld := (show ((wd).alloc (.cells #[.string y.id, .int .i64 y.prio, .bool y.crit, .int .i64 y.q0, .int .i64 y.q1, .int .i64 y.q2, .int .i64 y.l0, .int .i64 y.l1, .int .i64 y.l2, .string y.image, .int .i64 y.size] 25)).cell? ⟨w.heap.size, 0, none⟩ = some (.int .i64 room.a) ∧ ((wd).alloc (.cells #[.string y.id, .int .i64 y.prio, .bool y.crit, .int .i64 y.q0, .int .i64 y.q1, .int .i64 y.q2, .int .i64 y.l0, .int .i64 y.l1, .int .i64 y.l2, .string y.image, .int .i64 y.size] 25)).cell? ⟨w.heap.size, 1, none⟩ = some (.int .i64 room.b) ∧ ((wd).alloc (.cells #[.string y.id, .int .i64 y.prio, .bool y.crit, .int .i64 y.q0, .int .i64 y.q1, .int .i64 y.q2, .int .i64 y.l0, .int .i64 y.l1, .int .i64 y.l2, .string y.image, .int .i64 y.size] 25)).cell? ⟨w.heap.size, 2, none⟩ = some (.int .i64 room.c) ∧ ((wd).alloc (.cells #[.string y.id, .int .i64 y.prio, .bool y.crit, .int .i64 y.q0, .int .i64 y.q1, .int .i64 y.q2, .int .i64 y.l0, .int .i64 y.l1, .int .i64 y.l2, .string y.image, .int .i64 y.size] 25)).cell? ⟨w.heap.size + 1, 0, none⟩ = some (.string p.id) ∧ ((wd).alloc (.cells #[.string y.id, .int .i64 y.prio, .bool y.crit, .int .i64 y.q0, .int .i64 y.q1, .int .i64 y.q2, .int .i64 y.l0, .int .i64 y.l1, .int .i64 y.l2, .string y.image, .int .i64 y.size] 25)).cell? ⟨w.heap.size + 1, 1, none⟩ = some (.int .i64 p.prio) ∧ ((wd).alloc (.cells #[.string y.id, .int .i64 y.prio, .bool y.crit, .int .i64 y.q0, .int .i64 y.q1, .int .i64 y.q2, .int .i64 y.l0, .int .i64 y.l1, .int .i64 y.l2, .string y.image, .int .i64 y.size] 25)).cell? ⟨w.heap.size + 1, 2, none⟩ = some (.bool p.crit) ∧ ((wd).alloc (.cells #[.string y.id, .int .i64 y.prio, .bool y.crit, .int .i64 y.q0, .int .i64 y.q1, .int .i64 y.q2, .int .i64 y.l0, .int .i64 y.l1, .int .i64 y.l2, .string y.image, .int .i64 y.size] 25)).cell? ⟨w.heap.size + 1, 3, none⟩ = some (.int .i64 p.q0) ∧ ((wd).alloc (.cells #[.string y.id, .int .i64 y.prio, .bool y.crit, .int .i64 y.q0, .int .i64 y.q1, .int .i64 y.q2, .int .i64 y.l0, .int .i64 y.l1, .int .i64 y.l2, .string y.image, .int .i64 y.size] 25)).cell? ⟨w.heap.size + 1, 4, none⟩ = some (.int .i64 p.q1) ∧ ((wd).alloc (.cells #[.string y.id, .int .i64 y.prio, .bool y.crit, .int .i64 y.q0, .int .i64 y.q1, .int .i64 y.q2, .int .i64 y.l0, .int .i64 y.l1, .int .i64 y.l2, .string y.image, .int .i64 y.size] 25)).cell? ⟨w.heap.size + 1, 5, none⟩ = some (.int .i64 p.q2) ∧ ((wd).alloc (.cells #[.string y.id, .int .i64 y.prio, .bool y.crit, .int .i64 y.q0, .int .i64 y.q1, .int .i64 y.q2, .int .i64 y.l0, .int .i64 y.l1, .int .i64 y.l2, .string y.image, .int .i64 y.size] 25)).cell? ⟨w.heap.size + 1, 6, none⟩ = some (.int .i64 p.l0) ∧ ((wd).alloc (.cells #[.string y.id, .int .i64 y.prio, .bool y.crit, .int .i64 y.q0, .int .i64 y.q1, .int .i64 y.q2, .int .i64 y.l0, .int .i64 y.l1, .int .i64 y.l2, .string y.image, .int .i64 y.size] 25)).cell? ⟨w.heap.size + 1, 7, none⟩ = some (.int .i64 p.l1) ∧ ((wd).alloc (.cells #[.string y.id, .int .i64 y.prio, .bool y.crit, .int .i64 y.q0, .int .i64 y.q1, .int .i64 y.q2, .int .i64 y.l0, .int .i64 y.l1, .int .i64 y.l2, .string y.image, .int .i64 y.size] 25)).cell? ⟨w.heap.size + 1, 8, none⟩ = some (.int .i64 p.l2) ∧ ((wd).alloc (.cells #[.string y.id, .int .i64 y.prio, .bool y.crit, .int .i64 y.q0, .int .i64 y.q1, .int .i64 y.q2, .int .i64 y.l0, .int .i64 y.l1, .int .i64 y.l2, .string y.image, .int .i64 y.size] 25)).cell? ⟨w.heap.size + 1, 9, none⟩ = some (.string p.image) ∧ ((wd).alloc (.cells #[.string y.id, .int .i64 y.prio, .bool y.crit, .int .i64 y.q0, .int .i64 y.q1, .int .i64 y.q2, .int .i64 y.l0, .int .i64 y.l1, .int .i64 y.l2, .string y.image, .int .i64 y.size] 25)).cell? ⟨w.heap.size + 1, 10, none⟩ = some (.int .i64 p.size) ∧ ((wd).alloc (.cells #[.string y.id, .int .i64 y.prio, .bool y.crit, .int .i64 y.q0, .int .i64 y.q1, .int .i64 y.q2, .int .i64 y.l0, .int .i64 y.l1, .int .i64 y.l2, .string y.image, .int .i64 y.size] 25)).cell? ⟨b, off + k * 11, none⟩ = some (.string y.id) ∧ ((wd).alloc (.cells #[.string y.id, .int .i64 y.prio, .bool y.crit, .int .i64 y.q0, .int .i64 y.q1, .int .i64 y.q2, .int .i64 y.l0, .int .i64 y.l1, .int .i64 y.l2, .string y.image, .int .i64 y.size] 25)).cell? ⟨b, off + k * 11 + 1, none⟩ = some (.int .i64 y.prio) ∧ ((wd).alloc (.cells #[.string y.id, .int .i64 y.prio, .bool y.crit, .int .i64 y.q0, .int .i64 y.q1, .int .i64 y.q2, .int .i64 y.l0, .int .i64 y.l1, .int .i64 y.l2, .string y.image, .int .i64 y.size] 25)).cell? ⟨b, off + k * 11 + 2, none⟩ = some (.bool y.crit) ∧ ((wd).alloc (.cells #[.string y.id, .int .i64 y.prio, .bool y.crit, .int .i64 y.q0, .int .i64 y.q1, .int .i64 y.q2, .int .i64 y.l0, .int .i64 y.l1, .int .i64 y.l2, .string y.image, .int .i64 y.size] 25)).cell? ⟨b, off + k * 11 + 3, none⟩ = some (.int .i64 y.q0) ∧ ((wd).alloc (.cells #[.string y.id, .int .i64 y.prio, .bool y.crit, .int .i64 y.q0, .int .i64 y.q1, .int .i64 y.q2, .int .i64 y.l0, .int .i64 y.l1, .int .i64 y.l2, .string y.image, .int .i64 y.size] 25)).cell? ⟨b, off + k * 11 + 4, none⟩ = some (.int .i64 y.q1) ∧ ((wd).alloc (.cells #[.string y.id, .int .i64 y.prio, .bool y.crit, .int .i64 y.q0, .int .i64 y.q1, .int .i64 y.q2, .int .i64 y.l0, .int .i64 y.l1, .int .i64 y.l2, .string y.image, .int .i64 y.size] 25)).cell? ⟨b, off + k * 11 + 5, none⟩ = some (.int .i64 y.q2) ∧ ((wd).alloc (.cells #[.string y.id, .int .i64 y.prio, .bool y.crit, .int .i64 y.q0, .int .i64 y.q1, .int .i64 y.q2, .int .i64 y.l0, .int .i64 y.l1, .int .i64 y.l2, .string y.image, .int .i64 y.size] 25)).cell? ⟨b, off + k * 11 + 6, none⟩ = some (.int .i64 y.l0) ∧ ((wd).alloc (.cells #[.string y.id, .int .i64 y.prio, .bool y.crit, .int .i64 y.q0, .int .i64 y.q1, .int .i64 y.q2, .int .i64 y.l0, .int .i64 y.l1, .int .i64 y.l2, .string y.image, .int .i64 y.size] 25)).cell? ⟨b, off + k * 11 + 7, none⟩ = some (.int .i64 y.l1) ∧ ((wd).alloc (.cells #[.string y.id, .int .i64 y.prio, .bool y.crit, .int .i64 y.q0, .int .i64 y.q1, .int .i64 y.q2, .int .i64 y.l0, .int .i64 y.l1, .int .i64 y.l2, .string y.image, .int .i64 y.size] 25)).cell? ⟨b, off + k * 11 + 8, none⟩ = some (.int .i64 y.l2) ∧ ((wd).alloc (.cells #[.string y.id, .int .i64 y.prio, .bool y.crit, .int .i64 y.q0, .int .i64 y.q1, .int .i64 y.q2, .int .i64 y.l0, .int .i64 y.l1, .int .i64 y.l2, .string y.image, .int .i64 y.size] 25)).cell? ⟨b, off + k * 11 + 9, none⟩ = some (.string y.image) ∧ ((wd).alloc (.cells #[.string y.id, .int .i64 y.prio, .bool y.crit, .int .i64 y.q0, .int .i64 y.q1, .int .i64 y.q2, .int .i64 y.l0, .int .i64 y.l1, .int .i64 y.l2, .string y.image, .int .i64 y.size] 25)).cell? ⟨b, off + k * 11 + 10, none⟩ = some (.int .i64 y.size) from spCells HQ.out HRi.out HYK.out)
                      clear hK K
                      simp only [Act.put, List.setIfInBounds_toArray, List.set_cons_zero, List.set_cons_succ]
                      refine held_call 22 114 rfl rfl (by kernel_rfl) (by rfl) (fun K hK => ?_)
                      go_simp
                      have how := Own.made (wd.alloc (.cells #[.string y.id, .int .i64 y.prio, .bool y.crit, .int .i64 y.q0, .int .i64 y.q1, .int .i64 y.q2, .int .i64 y.l0, .int .i64 y.l1, .int .i64 y.l2, .string y.image, .int .i64 y.size] 25)) wd.heap.size 25 encP [] #[] rfl HB.out.size (by simp)
                      rw [show (wd.alloc (.cells #[.string y.id, .int .i64 y.prio, .bool y.crit, .int .i64 y.q0, .int .i64 y.q1, .int .i64 y.q2, .int .i64 y.l0, .int .i64 y.l1, .int .i64 y.l2, .string y.image, .int .i64 y.size] 25)).heap.size = wd.heap.size + 1 from by simp] at how
                      have HRW := Lib.hid (HRW.out.alloc (.cells #[] 25))
                      have HOW := Lib.hid how
                      clear how
                      have HB := Lib.hid (HB.out.alloc HB.out.size (.cells #[] 25))
                      have HQ := Lib.hid (HQd.out.below HB.out)
                      have HRi := Lib.hid (HRd.out.below HB.out)
                      refine hK _ _ (spCells HQ.out HRi.out HYK.out) ?_
                      have hHeld := (show ((wd.alloc (.cells #[.string y.id, .int .i64 y.prio, .bool y.crit, .int .i64 y.q0, .int .i64 y.q1, .int .i64 y.q2, .int .i64 y.l0, .int .i64 y.l1, .int .i64 y.l2, .string y.image, .int .i64 y.size] 25)).alloc (.cells #[] 25)).cell? ⟨w.heap.size, 0, none⟩ = some (.int .i64 room.a) ∧ ((wd.alloc (.cells #[.string y.id, .int .i64 y.prio, .bool y.crit, .int .i64 y.q0, .int .i64 y.q1, .int .i64 y.q2, .int .i64 y.l0, .int .i64 y.l1, .int .i64 y.l2, .string y.image, .int .i64 y.size] 25)).alloc (.cells #[] 25)).cell? ⟨w.heap.size, 1, none⟩ = some (.int .i64 room.b) ∧ ((wd.alloc (.cells #[.string y.id, .int .i64 y.prio, .bool y.crit, .int .i64 y.q0, .int .i64 y.q1, .int .i64 y.q2, .int .i64 y.l0, .int .i64 y.l1, .int .i64 y.l2, .string y.image, .int .i64 y.size] 25)).alloc (.cells #[] 25)).cell? ⟨w.heap.size, 2, none⟩ = some (.int .i64 room.c) ∧ ((wd.alloc (.cells #[.string y.id, .int .i64 y.prio, .bool y.crit, .int .i64 y.q0, .int .i64 y.q1, .int .i64 y.q2, .int .i64 y.l0, .int .i64 y.l1, .int .i64 y.l2, .string y.image, .int .i64 y.size] 25)).alloc (.cells #[] 25)).cell? ⟨w.heap.size + 1, 0, none⟩ = some (.string p.id) ∧ ((wd.alloc (.cells #[.string y.id, .int .i64 y.prio, .bool y.crit, .int .i64 y.q0, .int .i64 y.q1, .int .i64 y.q2, .int .i64 y.l0, .int .i64 y.l1, .int .i64 y.l2, .string y.image, .int .i64 y.size] 25)).alloc (.cells #[] 25)).cell? ⟨w.heap.size + 1, 1, none⟩ = some (.int .i64 p.prio) ∧ ((wd.alloc (.cells #[.string y.id, .int .i64 y.prio, .bool y.crit, .int .i64 y.q0, .int .i64 y.q1, .int .i64 y.q2, .int .i64 y.l0, .int .i64 y.l1, .int .i64 y.l2, .string y.image, .int .i64 y.size] 25)).alloc (.cells #[] 25)).cell? ⟨w.heap.size + 1, 2, none⟩ = some (.bool p.crit) ∧ ((wd.alloc (.cells #[.string y.id, .int .i64 y.prio, .bool y.crit, .int .i64 y.q0, .int .i64 y.q1, .int .i64 y.q2, .int .i64 y.l0, .int .i64 y.l1, .int .i64 y.l2, .string y.image, .int .i64 y.size] 25)).alloc (.cells #[] 25)).cell? ⟨w.heap.size + 1, 3, none⟩ = some (.int .i64 p.q0) ∧ ((wd.alloc (.cells #[.string y.id, .int .i64 y.prio, .bool y.crit, .int .i64 y.q0, .int .i64 y.q1, .int .i64 y.q2, .int .i64 y.l0, .int .i64 y.l1, .int .i64 y.l2, .string y.image, .int .i64 y.size] 25)).alloc (.cells #[] 25)).cell? ⟨w.heap.size + 1, 4, none⟩ = some (.int .i64 p.q1) ∧ ((wd.alloc (.cells #[.string y.id, .int .i64 y.prio, .bool y.crit, .int .i64 y.q0, .int .i64 y.q1, .int .i64 y.q2, .int .i64 y.l0, .int .i64 y.l1, .int .i64 y.l2, .string y.image, .int .i64 y.size] 25)).alloc (.cells #[] 25)).cell? ⟨w.heap.size + 1, 5, none⟩ = some (.int .i64 p.q2) ∧ ((wd.alloc (.cells #[.string y.id, .int .i64 y.prio, .bool y.crit, .int .i64 y.q0, .int .i64 y.q1, .int .i64 y.q2, .int .i64 y.l0, .int .i64 y.l1, .int .i64 y.l2, .string y.image, .int .i64 y.size] 25)).alloc (.cells #[] 25)).cell? ⟨w.heap.size + 1, 6, none⟩ = some (.int .i64 p.l0) ∧ ((wd.alloc (.cells #[.string y.id, .int .i64 y.prio, .bool y.crit, .int .i64 y.q0, .int .i64 y.q1, .int .i64 y.q2, .int .i64 y.l0, .int .i64 y.l1, .int .i64 y.l2, .string y.image, .int .i64 y.size] 25)).alloc (.cells #[] 25)).cell? ⟨w.heap.size + 1, 7, none⟩ = some (.int .i64 p.l1) ∧ ((wd.alloc (.cells #[.string y.id, .int .i64 y.prio, .bool y.crit, .int .i64 y.q0, .int .i64 y.q1, .int .i64 y.q2, .int .i64 y.l0, .int .i64 y.l1, .int .i64 y.l2, .string y.image, .int .i64 y.size] 25)).alloc (.cells #[] 25)).cell? ⟨w.heap.size + 1, 8, none⟩ = some (.int .i64 p.l2) ∧ ((wd.alloc (.cells #[.string y.id, .int .i64 y.prio, .bool y.crit, .int .i64 y.q0, .int .i64 y.q1, .int .i64 y.q2, .int .i64 y.l0, .int .i64 y.l1, .int .i64 y.l2, .string y.image, .int .i64 y.size] 25)).alloc (.cells #[] 25)).cell? ⟨w.heap.size + 1, 9, none⟩ = some (.string p.image) ∧ ((wd.alloc (.cells #[.string y.id, .int .i64 y.prio, .bool y.crit, .int .i64 y.q0, .int .i64 y.q1, .int .i64 y.q2, .int .i64 y.l0, .int .i64 y.l1, .int .i64 y.l2, .string y.image, .int .i64 y.size] 25)).alloc (.cells #[] 25)).cell? ⟨w.heap.size + 1, 10, none⟩ = some (.int .i64 p.size) ∧ ((wd.alloc (.cells #[.string y.id, .int .i64 y.prio, .bool y.crit, .int .i64 y.q0, .int .i64 y.q1, .int .i64 y.q2, .int .i64 y.l0, .int .i64 y.l1, .int .i64 y.l2, .string y.image, .int .i64 y.size] 25)).alloc (.cells #[] 25)).cell? ⟨b, off + k * 11, none⟩ = some (.string y.id) ∧ ((wd.alloc (.cells #[.string y.id, .int .i64 y.prio, .bool y.crit, .int .i64 y.q0, .int .i64 y.q1, .int .i64 y.q2, .int .i64 y.l0, .int .i64 y.l1, .int .i64 y.l2, .string y.image, .int .i64 y.size] 25)).alloc (.cells #[] 25)).cell? ⟨b, off + k * 11 + 1, none⟩ = some (.int .i64 y.prio) ∧ ((wd.alloc (.cells #[.string y.id, .int .i64 y.prio, .bool y.crit, .int .i64 y.q0, .int .i64 y.q1, .int .i64 y.q2, .int .i64 y.l0, .int .i64 y.l1, .int .i64 y.l2, .string y.image, .int .i64 y.size] 25)).alloc (.cells #[] 25)).cell? ⟨b, off + k * 11 + 2, none⟩ = some (.bool y.crit) ∧ ((wd.alloc (.cells #[.string y.id, .int .i64 y.prio, .bool y.crit, .int .i64 y.q0, .int .i64 y.q1, .int .i64 y.q2, .int .i64 y.l0, .int .i64 y.l1, .int .i64 y.l2, .string y.image, .int .i64 y.size] 25)).alloc (.cells #[] 25)).cell? ⟨b, off + k * 11 + 3, none⟩ = some (.int .i64 y.q0) ∧ ((wd.alloc (.cells #[.string y.id, .int .i64 y.prio, .bool y.crit, .int .i64 y.q0, .int .i64 y.q1, .int .i64 y.q2, .int .i64 y.l0, .int .i64 y.l1, .int .i64 y.l2, .string y.image, .int .i64 y.size] 25)).alloc (.cells #[] 25)).cell? ⟨b, off + k * 11 + 4, none⟩ = some (.int .i64 y.q1) ∧ ((wd.alloc (.cells #[.string y.id, .int .i64 y.prio, .bool y.crit, .int .i64 y.q0, .int .i64 y.q1, .int .i64 y.q2, .int .i64 y.l0, .int .i64 y.l1, .int .i64 y.l2, .string y.image, .int .i64 y.size] 25)).alloc (.cells #[] 25)).cell? ⟨b, off + k * 11 + 5, none⟩ = some (.int .i64 y.q2) ∧ ((wd.alloc (.cells #[.string y.id, .int .i64 y.prio, .bool y.crit, .int .i64 y.q0, .int .i64 y.q1, .int .i64 y.q2, .int .i64 y.l0, .int .i64 y.l1, .int .i64 y.l2, .string y.image, .int .i64 y.size] 25)).alloc (.cells #[] 25)).cell? ⟨b, off + k * 11 + 6, none⟩ = some (.int .i64 y.l0) ∧ ((wd.alloc (.cells #[.string y.id, .int .i64 y.prio, .bool y.crit, .int .i64 y.q0, .int .i64 y.q1, .int .i64 y.q2, .int .i64 y.l0, .int .i64 y.l1, .int .i64 y.l2, .string y.image, .int .i64 y.size] 25)).alloc (.cells #[] 25)).cell? ⟨b, off + k * 11 + 7, none⟩ = some (.int .i64 y.l1) ∧ ((wd.alloc (.cells #[.string y.id, .int .i64 y.prio, .bool y.crit, .int .i64 y.q0, .int .i64 y.q1, .int .i64 y.q2, .int .i64 y.l0, .int .i64 y.l1, .int .i64 y.l2, .string y.image, .int .i64 y.size] 25)).alloc (.cells #[] 25)).cell? ⟨b, off + k * 11 + 8, none⟩ = some (.int .i64 y.l2) ∧ ((wd.alloc (.cells #[.string y.id, .int .i64 y.prio, .bool y.crit, .int .i64 y.q0, .int .i64 y.q1, .int .i64 y.q2, .int .i64 y.l0, .int .i64 y.l1, .int .i64 y.l2, .string y.image, .int .i64 y.size] 25)).alloc (.cells #[] 25)).cell? ⟨b, off + k * 11 + 9, none⟩ = some (.string y.image) ∧ ((wd.alloc (.cells #[.string y.id, .int .i64 y.prio, .bool y.crit, .int .i64 y.q0, .int .i64 y.q1, .int .i64 y.q2, .int .i64 y.l0, .int .i64 y.l1, .int .i64 y.l2, .string y.image, .int .i64 y.size] 25)).alloc (.cells #[] 25)).cell? ⟨b, off + k * 11 + 10, none⟩ = some (.int .i64 y.size) from spCells HQ.out HRi.out HYK.out)
                      clear hK K
                      simp only [Act.put, List.setIfInBounds_toArray, List.set_cons_zero, List.set_cons_succ]
                      refine held_call 24 116 rfl rfl (by kernel_rfl) (by rfl) (fun K hK => ?_)
                      refine wp_app ((wd.alloc (.cells #[.string y.id, .int .i64 y.prio, .bool y.crit, .int .i64 y.q0, .int .i64 y.q1, .int .i64 y.q2, .int .i64 y.l0, .int .i64 y.l1, .int .i64 y.l2, .string y.image, .int .i64 y.size] 25)).alloc (.cells #[] 25)) elemP encP (.tmp 114) (.tmp 115) rfl wd.heap.size _ [] (by simp [Act.eval]) HOW.out As ST cs (by simp [Act.eval]) (HSd.out.below (HB.out.mono (by simp))) (by simp; omega) (by simp; omega) HB.out.size ?_
                      intro A5 c5 w5 ho hg _
                      have hb5 := HOW.out.belowGrown HB.out hg (Nat.le_refl _) HB.out.size
                      have HRW := Lib.hid (HRW.out.grownN hg (by simp [Value.ownBlock]))
                      have how : Own w5 wd.heap.size 25 encP (.slice A5 (ST).length c5) ST := by simpa using ho
                      have HOW := Lib.hid how
                      have HB := Lib.hid hb5
                      clear ho how hg hb5
                      have HQ := Lib.hid (HQd.out.below HB.out)
                      have HRi := Lib.hid (HRd.out.below HB.out)
                      simp only [List.length_nil, Nat.zero_add]
                      refine hK _ _ (spCells HQ.out HRi.out HYK.out) ?_
                      have hHeld := (show w5.cell? ⟨w.heap.size, 0, none⟩ = some (.int .i64 room.a) ∧ w5.cell? ⟨w.heap.size, 1, none⟩ = some (.int .i64 room.b) ∧ w5.cell? ⟨w.heap.size, 2, none⟩ = some (.int .i64 room.c) ∧ w5.cell? ⟨w.heap.size + 1, 0, none⟩ = some (.string p.id) ∧ w5.cell? ⟨w.heap.size + 1, 1, none⟩ = some (.int .i64 p.prio) ∧ w5.cell? ⟨w.heap.size + 1, 2, none⟩ = some (.bool p.crit) ∧ w5.cell? ⟨w.heap.size + 1, 3, none⟩ = some (.int .i64 p.q0) ∧ w5.cell? ⟨w.heap.size + 1, 4, none⟩ = some (.int .i64 p.q1) ∧ w5.cell? ⟨w.heap.size + 1, 5, none⟩ = some (.int .i64 p.q2) ∧ w5.cell? ⟨w.heap.size + 1, 6, none⟩ = some (.int .i64 p.l0) ∧ w5.cell? ⟨w.heap.size + 1, 7, none⟩ = some (.int .i64 p.l1) ∧ w5.cell? ⟨w.heap.size + 1, 8, none⟩ = some (.int .i64 p.l2) ∧ w5.cell? ⟨w.heap.size + 1, 9, none⟩ = some (.string p.image) ∧ w5.cell? ⟨w.heap.size + 1, 10, none⟩ = some (.int .i64 p.size) ∧ w5.cell? ⟨b, off + k * 11, none⟩ = some (.string y.id) ∧ w5.cell? ⟨b, off + k * 11 + 1, none⟩ = some (.int .i64 y.prio) ∧ w5.cell? ⟨b, off + k * 11 + 2, none⟩ = some (.bool y.crit) ∧ w5.cell? ⟨b, off + k * 11 + 3, none⟩ = some (.int .i64 y.q0) ∧ w5.cell? ⟨b, off + k * 11 + 4, none⟩ = some (.int .i64 y.q1) ∧ w5.cell? ⟨b, off + k * 11 + 5, none⟩ = some (.int .i64 y.q2) ∧ w5.cell? ⟨b, off + k * 11 + 6, none⟩ = some (.int .i64 y.l0) ∧ w5.cell? ⟨b, off + k * 11 + 7, none⟩ = some (.int .i64 y.l1) ∧ w5.cell? ⟨b, off + k * 11 + 8, none⟩ = some (.int .i64 y.l2) ∧ w5.cell? ⟨b, off + k * 11 + 9, none⟩ = some (.string y.image) ∧ w5.cell? ⟨b, off + k * 11 + 10, none⟩ = some (.int .i64 y.size) from spCells HQ.out HRi.out HYK.out)
                      clear hK K
                      simp only [Act.put, List.setIfInBounds_toArray, List.set_cons_zero, List.set_cons_succ]
                      refine held_call 30 122 rfl rfl (by kernel_rfl) (by rfl) (fun K hK => ?_)
                      refine wp_app (w5) elemP encP (.tmp 116) (.tmp 121) rfl wd.heap.size _ ST (by simp [Act.eval]) HOW.out _ [y] 1 (by simp [Act.eval]) HRW.out (by simp; omega) (by simp; omega) HB.out.size ?_
                      intro A7 c7 w7 ho hg _
                      have hb7 := HOW.out.belowGrown HB.out hg (Nat.le_refl _) HB.out.size
                      have HOW := Lib.hid ho
                      have HB := Lib.hid hb7
                      clear ho hg hb7
                      have HQ := Lib.hid (HQd.out.below HB.out)
                      have HRi := Lib.hid (HRd.out.below HB.out)
                      refine hK _ _ (spCells HQ.out HRi.out HYK.out) ?_
                      have hHeld := (show w7.cell? ⟨w.heap.size, 0, none⟩ = some (.int .i64 room.a) ∧ w7.cell? ⟨w.heap.size, 1, none⟩ = some (.int .i64 room.b) ∧ w7.cell? ⟨w.heap.size, 2, none⟩ = some (.int .i64 room.c) ∧ w7.cell? ⟨w.heap.size + 1, 0, none⟩ = some (.string p.id) ∧ w7.cell? ⟨w.heap.size + 1, 1, none⟩ = some (.int .i64 p.prio) ∧ w7.cell? ⟨w.heap.size + 1, 2, none⟩ = some (.bool p.crit) ∧ w7.cell? ⟨w.heap.size + 1, 3, none⟩ = some (.int .i64 p.q0) ∧ w7.cell? ⟨w.heap.size + 1, 4, none⟩ = some (.int .i64 p.q1) ∧ w7.cell? ⟨w.heap.size + 1, 5, none⟩ = some (.int .i64 p.q2) ∧ w7.cell? ⟨w.heap.size + 1, 6, none⟩ = some (.int .i64 p.l0) ∧ w7.cell? ⟨w.heap.size + 1, 7, none⟩ = some (.int .i64 p.l1) ∧ w7.cell? ⟨w.heap.size + 1, 8, none⟩ = some (.int .i64 p.l2) ∧ w7.cell? ⟨w.heap.size + 1, 9, none⟩ = some (.string p.image) ∧ w7.cell? ⟨w.heap.size + 1, 10, none⟩ = some (.int .i64 p.size) ∧ w7.cell? ⟨b, off + k * 11, none⟩ = some (.string y.id) ∧ w7.cell? ⟨b, off + k * 11 + 1, none⟩ = some (.int .i64 y.prio) ∧ w7.cell? ⟨b, off + k * 11 + 2, none⟩ = some (.bool y.crit) ∧ w7.cell? ⟨b, off + k * 11 + 3, none⟩ = some (.int .i64 y.q0) ∧ w7.cell? ⟨b, off + k * 11 + 4, none⟩ = some (.int .i64 y.q1) ∧ w7.cell? ⟨b, off + k * 11 + 5, none⟩ = some (.int .i64 y.q2) ∧ w7.cell? ⟨b, off + k * 11 + 6, none⟩ = some (.int .i64 y.l0) ∧ w7.cell? ⟨b, off + k * 11 + 7, none⟩ = some (.int .i64 y.l1) ∧ w7.cell? ⟨b, off + k * 11 + 8, none⟩ = some (.int .i64 y.l2) ∧ w7.cell? ⟨b, off + k * 11 + 9, none⟩ = some (.string y.image) ∧ w7.cell? ⟨b, off + k * 11 + 10, none⟩ = some (.int .i64 y.size) from spCells HQ.out HRi.out HYK.out)
                      clear hK K
                      simp only [Act.put, List.setIfInBounds_toArray, List.set_cons_zero, List.set_cons_succ]
                      refine held_call 31 123 rfl rfl (by kernel_rfl) (by rfl) (fun K hK => ?_)
                      go_simp
                      have HO7 := Lib.hid (show Rds w7 encP A7 (ST ++ [y]) from HOW.out.toRds)
                      go_at_call 18; with_reducible refine (fitsN (show ST.length + 1 = (ST ++ [y]).length by simp) HFY.out HO7.out HWY.out (by simp; omega)).mono ?_; rintro e w9 ⟨rfl, hb⟩
                      have HB := Lib.hid (below_rV HB.out hb)
                      have HQ := Lib.hid (HQd.out.below HB.out)
                      have HRi := Lib.hid (HRd.out.below HB.out)
                      clear hb
                      refine hK _ _ (spCells HQ.out HRi.out HYK.out) ?_
                      have hHeld := (show w9.cell? ⟨w.heap.size, 0, none⟩ = some (.int .i64 room.a) ∧ w9.cell? ⟨w.heap.size, 1, none⟩ = some (.int .i64 room.b) ∧ w9.cell? ⟨w.heap.size, 2, none⟩ = some (.int .i64 room.c) ∧ w9.cell? ⟨w.heap.size + 1, 0, none⟩ = some (.string p.id) ∧ w9.cell? ⟨w.heap.size + 1, 1, none⟩ = some (.int .i64 p.prio) ∧ w9.cell? ⟨w.heap.size + 1, 2, none⟩ = some (.bool p.crit) ∧ w9.cell? ⟨w.heap.size + 1, 3, none⟩ = some (.int .i64 p.q0) ∧ w9.cell? ⟨w.heap.size + 1, 4, none⟩ = some (.int .i64 p.q1) ∧ w9.cell? ⟨w.heap.size + 1, 5, none⟩ = some (.int .i64 p.q2) ∧ w9.cell? ⟨w.heap.size + 1, 6, none⟩ = some (.int .i64 p.l0) ∧ w9.cell? ⟨w.heap.size + 1, 7, none⟩ = some (.int .i64 p.l1) ∧ w9.cell? ⟨w.heap.size + 1, 8, none⟩ = some (.int .i64 p.l2) ∧ w9.cell? ⟨w.heap.size + 1, 9, none⟩ = some (.string p.image) ∧ w9.cell? ⟨w.heap.size + 1, 10, none⟩ = some (.int .i64 p.size) ∧ w9.cell? ⟨b, off + k * 11, none⟩ = some (.string y.id) ∧ w9.cell? ⟨b, off + k * 11 + 1, none⟩ = some (.int .i64 y.prio) ∧ w9.cell? ⟨b, off + k * 11 + 2, none⟩ = some (.bool y.crit) ∧ w9.cell? ⟨b, off + k * 11 + 3, none⟩ = some (.int .i64 y.q0) ∧ w9.cell? ⟨b, off + k * 11 + 4, none⟩ = some (.int .i64 y.q1) ∧ w9.cell? ⟨b, off + k * 11 + 5, none⟩ = some (.int .i64 y.q2) ∧ w9.cell? ⟨b, off + k * 11 + 6, none⟩ = some (.int .i64 y.l0) ∧ w9.cell? ⟨b, off + k * 11 + 7, none⟩ = some (.int .i64 y.l1) ∧ w9.cell? ⟨b, off + k * 11 + 8, none⟩ = some (.int .i64 y.l2) ∧ w9.cell? ⟨b, off + k * 11 + 9, none⟩ = some (.string y.image) ∧ w9.cell? ⟨b, off + k * 11 + 10, none⟩ = some (.int .i64 y.size) from spCells HQ.out HRi.out HYK.out)
                      clear hK K
                      simp only [Act.put, List.setIfInBounds_toArray, List.set_cons_zero, List.set_cons_succ]
                      refine held_take 32 124 (.bool true) rfl rfl (by kernel_rfl) (by kernel_rfl) (by kernel_rfl) (fun _ _ _ h => h) (by rfl) (by intro w' hSw; (try dsimp only at hSw); go_simp; (try (with_reducible rfl))) (by assumption) ?_
                      simp only [Act.put, List.setIfInBounds_toArray, List.set_cons_zero, List.set_cons_succ]
                      refine held_take 33 125 (.bool true) rfl rfl (by kernel_rfl) (by kernel_rfl) (by kernel_rfl) (fun _ _ _ h => h) (by rfl) (by intro w' hSw; (try dsimp only at hSw); go_simp; (try (with_reducible rfl))) (by assumption) ?_
                      simp only [Act.put, List.setIfInBounds_toArray, List.set_cons_zero, List.set_cons_succ]
                      refine held_take 34 11 (.bool true) rfl rfl (by kernel_rfl) (by kernel_rfl) (by kernel_rfl) (fun _ _ _ h => h) (by rfl) (by intro w' hSw; (try dsimp only at hSw); go_simp; (try (with_reducible rfl))) (by assumption) ?_
                      simp only [Act.put, List.setIfInBounds_toArray, List.set_cons_zero, List.set_cons_succ]
                      refine wpAnyH_done (by kernel_rfl) ?_ _
                      clear hHeld
                      go_wp2_with fail
                      go_roundw
                      case rel => exact ⟨k + 1, by omega, HN.out, by go_num, below_rV HQB.out HB.out⟩
                      case measure => simp [intOf]; omega
                · obtain rfl : k = l.length := by omega
                  have dq : decide ((l.length : Int) < (l.length : Int)) = false := by simp
                  rw [List.take_length, anyId_all HD.out]
                  go_wp2_with fail
                  go_roundw
                  case rel => exact ⟨i + 1, by omega, by go_num, HQB.out⟩
                  case measure => simp [intOf]; omega
    
          · obtain rfl : i = O.length := by omega
            have dk : decide ((O.length : Int) < (O.length : Int)) = false := by simp
            go_wp2_with fail
            go_ret
            exact ⟨rfl, (HQ0.out.below HQB.out).bel⟩
end Go.Proofs.Ytabbkembpghfdaa
