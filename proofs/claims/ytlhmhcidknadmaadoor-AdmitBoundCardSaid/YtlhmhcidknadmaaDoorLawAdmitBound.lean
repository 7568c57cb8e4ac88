/- bilgelaw23.AdmitBound: of whoever is admitted, its requests and those of all that stay have exact sums that are at most Allocatable, and below the greatest number. -/
import Derived.Test.YtlhmhcidknadmaaDoorALaw
namespace Go.Proofs.YtlhmhcidknadmaaDoor
open Go.RowKit

theorem abCells {f : Cf} {a b c : Bool} {p : Pd} {w W : World} {g : Nat} {k s : Int} {Ax : Option Addr} {n cx : Nat} (h : LA f a b c p w W) (hv : Blk W g 36 #[.int .i64 k, .int .i64 s, .slice Ax n cx]) : W.cell? ⟨w.heap.size + 1 + 1, 0, none⟩ = some (.string p.id) ∧ W.cell? ⟨w.heap.size + 1 + 1, 1, none⟩ = some (.int .i64 p.prio) ∧ W.cell? ⟨w.heap.size + 1 + 1, 2, none⟩ = some (.bool p.crit) ∧ W.cell? ⟨w.heap.size + 1 + 1, 3, none⟩ = some (.int .i64 p.q0) ∧ W.cell? ⟨w.heap.size + 1 + 1, 4, none⟩ = some (.int .i64 p.q1) ∧ W.cell? ⟨w.heap.size + 1 + 1, 5, none⟩ = some (.int .i64 p.q2) ∧ W.cell? ⟨w.heap.size + 1 + 1, 6, none⟩ = some (.int .i64 p.l0) ∧ W.cell? ⟨w.heap.size + 1 + 1, 7, none⟩ = some (.int .i64 p.l1) ∧ W.cell? ⟨w.heap.size + 1 + 1, 8, none⟩ = some (.int .i64 p.l2) ∧ W.cell? ⟨w.heap.size + 1 + 1, 9, none⟩ = some (.string p.image) ∧ W.cell? ⟨w.heap.size + 1 + 1, 10, none⟩ = some (.int .i64 p.size) ∧ W.cell? ⟨g, 2, none⟩ = some (.slice Ax n cx) := by
  obtain ⟨x0, x1, x2, x3, x4, x5, x6, x7, x8, x9, x10⟩ := h.pb.pd
  exact ⟨x0, x1, x2, x3, x4, x5, x6, x7, x8, x9, x10, hv.cell 2⟩
set_option maxRecDepth 100000 in
set_option maxHeartbeats 16000000 in
theorem admitBound_any (f : Cf) (l : List En) (a b c : Bool) (p : Pd) (Al : Option Addr) (cl : Nat) (w : World) (hr : Rds w encN Al l) (hw : ∀ x ∈ l, x.pod.Wf ∧ I64 x.phase) (hm : l.length ≤ 9223372036854775807) (hp : p.Wf) (hrt : Rds w encT f.A f.ts) (hnt : f.ts.length ≤ 9223372036854775807) (hra : I64 f.room.a) (hrb : I64 f.room.b) (hrc : I64 f.room.c) :
    Calls Tryd.prog 3 #[.agg f.cells, .slice Al l.length cl, .agg #[.bool a, .bool b, .bool c], .agg p.cells] w fun e w' => e = .returned (.bool true) ∧ Below w.heap.size w w' := by
  have mixed : Tryd.prog.follows Departure.mixedOrders = true := by kernel_rfl
  have HQ := Lib.hid (LA.new f a b c p w)
  have HR := Lib.hid hr
  have HW := Lib.hid hw
  have HPW := Lib.hid hp
  have HRT := Lib.hid hrt
  clear hr hw hp hrt
  go_enter Tryd.func3, Tryd.ntmps3
  go_wp2_with fail
  refine (awake23_any _).mono ?_; rintro e w1 ⟨rfl, hb⟩
  have HQ := Lib.hid (HQ.out.below hb)
  clear hb
  have ccf := HQ.out.cf.cell
  go_wp2_with fail
  refine (right07_any f _ (HRT.out.below HQ.out.bel) hnt).mono ?_; rintro e w2 ⟨v1, rfl, hv1, hb⟩
  have HQ := Lib.hid (HQ.out.below hb)
  have HV1 := Lib.hid hv1
  clear hb hv1 ccf
  cases v1
  · go_wp2_with fail
    refine (awake23_any _).mono ?_; rintro e w9 ⟨rfl, hb⟩
    have HQ := Lib.hid (HQ.out.below hb)
    clear hb
    go_wp2_with fail
    go_ret
    exact ⟨rfl, HQ.out.bel⟩
  have HR0 : Hid (Room0 f) := HV1.out rfl
  clear HV1
  by_cases hf : FitE l
  rotate_left
  · go_wp2_with fail
    refine (fit20V_any (v := false) (by simp [hf]) Al cl _ (HR.out.below HQ.out.bel) HW.out hm).mono ?_; rintro e w3 ⟨rfl, hb⟩
    have HQ := Lib.hid (HQ.out.below hb)
    clear hb hf
    go_wp2_with fail
    refine (awake23_any _).mono ?_; rintro e w9 ⟨rfl, hb⟩
    have HQ := Lib.hid (HQ.out.below hb)
    clear hb
    go_wp2_with fail
    go_ret
    exact ⟨rfl, HQ.out.bel⟩
  have HF := Lib.hid hf
  have hl := hf.len
  go_wp2_with fail
  refine (fit20V_any (v := true) (by simp [hf]) Al cl _ (HR.out.below HQ.out.bel) HW.out hm).mono ?_; rintro e w3 ⟨rfl, hb⟩
  have HQ := Lib.hid (HQ.out.below hb)
  clear hb hf
  have cp := HQ.out.pb.cell
  go_wp2_with fail
  obtain ⟨v3, hv3⟩ : ∃ v, p.small = v := ⟨_, rfl⟩
  have HSM := Lib.hid hv3
  clear hv3
  refine (smallV_any HSM.out _).mono ?_; rintro e w4 ⟨rfl, hb⟩
  have HQ := Lib.hid (HQ.out.below hb)
  have HRL := Lib.hid (HR.out.below HQ.out.bel)
  clear hb cp
  cases v3
  · go_wp2_with fail
    refine (awake23_any _).mono ?_; rintro e w9 ⟨rfl, hb⟩
    have HQ := Lib.hid (HQ.out.below hb)
    clear hb
    go_wp2_with fail
    go_ret
    exact ⟨rfl, HQ.out.bel⟩
  have ccf := HQ.out.cf.cell
  have con := HQ.out.on.cell
  have cp := HQ.out.pb.cell
  go_wp2_with fail
  refine (decide_any f l a b c p Al cl _ HRL.out (fun x hx => (HW.out x hx).1) hm HPW.out).mono ?_; rintro e w5 ⟨k, s, O, err, Ax, cx, rfl, hv, ho, hb⟩
  have HVV := Lib.hid hv
  have HQ := Lib.hid ((HQ.out.below hb).alloc (.cells #[.int .i64 k, .int .i64 s, .slice Ax O.length cx] 36))
  have HRi := Lib.hid ((HRL.out.below hb).alloc (.cells #[.int .i64 k, .int .i64 s, .slice Ax O.length cx] 36))
  have HRX := Lib.hid (ho.toRds.alloc (.cells #[.int .i64 k, .int .i64 s, .slice Ax O.length cx] 36))
  have HV := Lib.hid (Blk.new w5 36 #[.int .i64 k, .int .i64 s, .slice Ax O.length cx])
  clear hv ho hb ccf con cp
  obtain ⟨k0, hk0⟩ : ∃ k', k' = k := ⟨_, rfl⟩
  rcases HVV.out with ⟨_, rfl, rfl, rfl, rfl⟩ | ⟨_, _, rfl, rfl, rfl, rfl⟩ | ⟨_, _, _, rfl, rfl, rfl, rfl⟩ | ⟨_, _, _, _, rfl, rfl, rfl, rfl⟩ | ⟨hr, hne, hl2, _, rfl, rfl, bb, hwho, hk⟩
  · clear HVV hk0
    go_wp2_with fail
    go_ret
    exact ⟨rfl, HQ.out.bel⟩
  · clear HVV hk0
    go_wp2_with fail
    go_ret
    exact ⟨rfl, HQ.out.bel⟩
  · clear HVV hk0
    go_wp2_with fail
    go_ret
    exact ⟨rfl, HQ.out.bel⟩
  · clear HVV hk0
    go_wp2_with fail
    go_ret
    exact ⟨rfl, HQ.out.bel⟩
  · clear HVV hk0
    cases bb
    · obtain rfl : O = [] := (by obtain ⟨_, _, _, _, _, h⟩ := hwho; exact h rfl)
      obtain rfl : k = 4 := hk
      clear hwho hr hne
      go_wp2_with fail
      go_ret
      exact ⟨rfl, HQ.out.bel⟩
    · have HFV := Lib.hid (fitV_of HF.out HR0.out HSM.out hr hne)
      have HMIN := Lib.hid (minD HFV.out hwho)
      have HPL : Hid ((podsD l).length < 64 ∧ O.length < 64 ∧ (leftD O (podsD l)).length < 64) := by
        have h1 := podsD_len l
        have h2 := hwho.len
        have h3 := leftD_len O (podsD l)
        exact ⟨by omega, by omega, by omega⟩
      have HKV : Hid ((k = 1 ∧ O.length = 0) ∨ (k = 2 ∧ 0 < O.length)) := by
        show _ ∨ _
        rw [if_neg (by simp)] at hk
        by_cases hO : O = []
        · rw [if_pos hO] at hk; exact .inl ⟨hk, by rw [hO]; rfl⟩
        · rw [if_neg hO] at hk; exact .inr ⟨hk, List.length_pos_iff.2 hO⟩
      have HWS := Lib.hid (show ∀ x ∈ leftD O (podsD l) ++ [p], x.Wf ∧ x.right = true from fun x hx => by
        rcases List.mem_append.1 hx with h | h
        · exact podsD_wf HF.out HW.out x (List.mem_filter.1 h).1
        · rw [List.mem_singleton.1 h]; exact ⟨HPW.out, hr⟩)
      clear hwho hr hne hk
      have hr0 := HR0.out
      have h0a : 0 ≤ f.room.a ∧ f.room.a ≤ 9223372036854775807 := ⟨hr0.1, hra.2⟩
      have h0b : 0 ≤ f.room.b ∧ f.room.b ≤ 9223372036854775807 := ⟨hr0.2.1, hrb.2⟩
      have h0c : 0 ≤ f.room.c ∧ f.room.c ≤ 9223372036854775807 := ⟨hr0.2.2, hrc.2⟩
      have HROOM := Lib.hid (And.intro h0a (And.intro h0b h0c))
      clear hr0 h0a h0b h0c hra hrb hrc
      rcases HKV.out with ⟨hk1, hO⟩ | ⟨hk2, hO⟩
      · obtain rfl : k = 1 := hk1
        have dO : ((O.length : Int) == 0) = true := by simp [hO]
        have dO2 : O.length = 0 := hO
        clear HKV hO dO2
        have cv := HV.out.cell
        go_wp2_with fail
        clear cv
        generalize (w5.alloc (.cells #[.int .i64 1, .int .i64 0, .slice Ax O.length cx] 36)) = W5 at *
        have hBr : Below W5.heap.size W5 W5.drew := (Below.refl _ _).drew
        have HBr := Lib.hid hBr
        clear hBr
        go_cut [11] (fun st W => ∃ A8 c8, st = .slice A8 (leftD O (podsD l) ++ [p]).length c8 ∧ Own W W5.heap.size 29 encP (.slice A8 (leftD O (podsD l) ++ [p]).length c8) (leftD O (podsD l) ++ [p]) ∧ Below W5.heap.size W5 W)
        case first =>
          have HQd := Lib.hid HQ.out.drew
          have HVd := Lib.hid HV.out.drew
          have HRd := Lib.hid HRi.out.drew
          have HRXd := Lib.hid HRX.out.drew
          refine wp_region_held_drew (S := (fun w' => w'.cell? ⟨w.heap.size + 1 + 1, 0, none⟩ = some (.string p.id) ∧ w'.cell? ⟨w.heap.size + 1 + 1, 1, none⟩ = some (.int .i64 p.prio) ∧ w'.cell? ⟨w.heap.size + 1 + 1, 2, none⟩ = some (.bool p.crit) ∧ w'.cell? ⟨w.heap.size + 1 + 1, 3, none⟩ = some (.int .i64 p.q0) ∧ w'.cell? ⟨w.heap.size + 1 + 1, 4, none⟩ = some (.int .i64 p.q1) ∧ w'.cell? ⟨w.heap.size + 1 + 1, 5, none⟩ = some (.int .i64 p.q2) ∧ w'.cell? ⟨w.heap.size + 1 + 1, 6, none⟩ = some (.int .i64 p.l0) ∧ w'.cell? ⟨w.heap.size + 1 + 1, 7, none⟩ = some (.int .i64 p.l1) ∧ w'.cell? ⟨w.heap.size + 1 + 1, 8, none⟩ = some (.int .i64 p.l2) ∧ w'.cell? ⟨w.heap.size + 1 + 1, 9, none⟩ = some (.string p.image) ∧ w'.cell? ⟨w.heap.size + 1 + 1, 10, none⟩ = some (.int .i64 p.size) ∧ w'.cell? ⟨w5.heap.size, 2, none⟩ = some (.slice Ax O.length cx))) (by kernel_rfl) (abCells HQd.out HVd.out) (fun hHeld => ?_)
          generalize W5.drew = wd at *
          have hb0 : Below wd.heap.size wd wd := Below.refl _ _
          have HB := Lib.hid hb0
          clear hb0
          have HQ := HQd
          have HV := HVd
          have HRi := HRd
          have HRX := HRXd
          refine held_take 0 54 (.slice Al l.length cl) rfl rfl (by kernel_rfl) (by kernel_rfl) (by kernel_rfl) (fun _ _ _ h => h) (by rfl) (by intro w' hSw; (try dsimp only at hSw); go_simp; (try (with_reducible rfl))) (by assumption) ?_
          simp only [Act.put, List.setIfInBounds_toArray, List.set_cons_zero, List.set_cons_succ]
          refine held_take 2 56 (.pointer (some ⟨w5.heap.size, 2, none⟩)) rfl rfl (by kernel_rfl) (by kernel_rfl) (by kernel_rfl) (fun _ _ _ h => h) (by rfl) (by intro w' hSw; (try dsimp only at hSw); go_simp; (try (with_reducible rfl))) (by assumption) ?_
          simp only [Act.put, List.setIfInBounds_toArray, List.set_cons_zero, List.set_cons_succ]
          refine held_take 3 57 (.slice Ax O.length cx) rfl rfl (by kernel_rfl) (by kernel_rfl) (by kernel_rfl) (fun _ _ _ h => h) (by rfl) (by intro w' hSw; (try dsimp only at hSw); go_simp; (try (with_reducible rfl))) (by assumption) ?_
          simp only [Act.put, List.setIfInBounds_toArray, List.set_cons_zero, List.set_cons_succ]
          refine held_take 5 59 (.agg #[.string p.id, .int .i64 p.prio, .bool p.crit, .int .i64 p.q0, .int .i64 p.q1, .int .i64 p.q2, .int .i64 p.l0, .int .i64 p.l1, .int .i64 p.l2, .string p.image, .int .i64 p.size]) rfl rfl (by kernel_rfl) (by kernel_rfl) (by kernel_rfl) (fun _ _ _ h => h) (by rfl) (by intro w' hSw; (try dsimp only at hSw); go_simp; (try (with_reducible rfl))) (by assumption) ?_
          simp only [Act.put, List.setIfInBounds_toArray, List.set_cons_zero, List.set_cons_succ]
          refine held_twoD 1 6 55 60 rfl rfl rfl rfl (by kernel_rfl) (by rfl) (by rfl) (fun K hK => ?_) (fun K hK => ?_)
          · go_simp
            go_at_call 14; with_reducible refine (pods_any l Al cl _ HRi.out (by omega)).mono ?_; rintro e w6 ⟨A6, c6, rfl, ho, hb⟩
            have HRP := Lib.hid ho.toRds
            have HB := Lib.hid (below_rV HB.out hb)
            clear ho hb
            have HQ := Lib.hid (HQd.out.below HB.out)
            have HV := Lib.hid (HVd.out.belowAll HB.out)
            have HRi := Lib.hid (HRd.out.below HB.out)
            have HRX := Lib.hid (HRXd.out.below HB.out)
            refine hK _ _ (abCells HQ.out HV.out) ?_
            have hHeld := (show w6.cell? ⟨w.heap.size + 1 + 1, 0, none⟩ = some (.string p.id) ∧ w6.cell? ⟨w.heap.size + 1 + 1, 1, none⟩ = some (.int .i64 p.prio) ∧ w6.cell? ⟨w.heap.size + 1 + 1, 2, none⟩ = some (.bool p.crit) ∧ w6.cell? ⟨w.heap.size + 1 + 1, 3, none⟩ = some (.int .i64 p.q0) ∧ w6.cell? ⟨w.heap.size + 1 + 1, 4, none⟩ = some (.int .i64 p.q1) ∧ w6.cell? ⟨w.heap.size + 1 + 1, 5, none⟩ = some (.int .i64 p.q2) ∧ w6.cell? ⟨w.heap.size + 1 + 1, 6, none⟩ = some (.int .i64 p.l0) ∧ w6.cell? ⟨w.heap.size + 1 + 1, 7, none⟩ = some (.int .i64 p.l1) ∧ w6.cell? ⟨w.heap.size + 1 + 1, 8, none⟩ = some (.int .i64 p.l2) ∧ w6.cell? ⟨w.heap.size + 1 + 1, 9, none⟩ = some (.string p.image) ∧ w6.cell? ⟨w.heap.size + 1 + 1, 10, none⟩ = some (.int .i64 p.size) ∧ w6.cell? ⟨w5.heap.size, 2, none⟩ = some (.slice Ax O.length cx) from abCells HQ.out HV.out)
            clear hK K
            simp only [Act.put, List.setIfInBounds_toArray, List.set_cons_zero, List.set_cons_succ]
            refine held_twoD 4 6 58 60 rfl rfl rfl rfl (by kernel_rfl) (by rfl) (by rfl) (fun K hK => ?_) (fun K hK => ?_)
            · go_simp
              go_at_call 13; with_reducible refine (without_any (podsD l) O A6 Ax c6 cx _ HRP.out HRX.out (by have := HPL.out; omega) (by have := HPL.out; omega)).mono ?_; rintro e w7 ⟨A7, c7, rfl, ho, hb⟩
              have HBS5 := Lib.hid HB.out.size
              have HOW := Lib.hid (ho.mono HBS5.out)
              have HB := Lib.hid (below_rV HB.out hb)
              clear ho hb
              have HQ := Lib.hid (HQd.out.below HB.out)
              have HV := Lib.hid (HVd.out.belowAll HB.out)
              have HRi := Lib.hid (HRd.out.below HB.out)
              have HRX := Lib.hid (HRXd.out.below HB.out)
              refine hK _ _ (abCells HQ.out HV.out) ?_
              have hHeld := (show w7.cell? ⟨w.heap.size + 1 + 1, 0, none⟩ = some (.string p.id) ∧ w7.cell? ⟨w.heap.size + 1 + 1, 1, none⟩ = some (.int .i64 p.prio) ∧ w7.cell? ⟨w.heap.size + 1 + 1, 2, none⟩ = some (.bool p.crit) ∧ w7.cell? ⟨w.heap.size + 1 + 1, 3, none⟩ = some (.int .i64 p.q0) ∧ w7.cell? ⟨w.heap.size + 1 + 1, 4, none⟩ = some (.int .i64 p.q1) ∧ w7.cell? ⟨w.heap.size + 1 + 1, 5, none⟩ = some (.int .i64 p.q2) ∧ w7.cell? ⟨w.heap.size + 1 + 1, 6, none⟩ = some (.int .i64 p.l0) ∧ w7.cell? ⟨w.heap.size + 1 + 1, 7, none⟩ = some (.int .i64 p.l1) ∧ w7.cell? ⟨w.heap.size + 1 + 1, 8, none⟩ = some (.int .i64 p.l2) ∧ w7.cell? ⟨w.heap.size + 1 + 1, 9, none⟩ = some (.string p.image) ∧ w7.cell? ⟨w.heap.size + 1 + 1, 10, none⟩ = some (.int .i64 p.size) ∧ w7.cell? ⟨w5.heap.size, 2, none⟩ = some (.slice Ax O.length cx) from abCells HQ.out HV.out)
              clear hK K
              simp only [Act.put, List.setIfInBounds_toArray, List.set_cons_zero, List.set_cons_succ]
              refine held_call 6 60 rfl rfl (by kernel_rfl) (by rfl) (fun K hK => ?_)
              go_simp
              have HRW := Lib.hid (Rds.made (w7) encP [p] 29 #[.string p.id, .int .i64 p.prio, .bool p.crit, .int .i64 p.q0, .int .i64 p.q1, .int .i64 p.q2, .int .i64 p.l0, .int .i64 p.l1, .int .i64 p.l2, .string p.image, .int .i64 p.size] (0, 0) rfl)
              have HOW := Lib.hid (HOW.out.alloc (.cells #[.string p.id, .int .i64 p.prio, .bool p.crit, .int .i64 p.q0, .int .i64 p.q1, .int .i64 p.q2, .int .i64 p.l0, .int .i64 p.l1, .int .i64 p.l2, .string p.image, .int .i64 p.size] 29))
              have HB := Lib.hid (HB.out.alloc HB.out.size (.cells #[.string p.id, .int .i64 p.prio, .bool p.crit, .int .i64 p.q0, .int .i64 p.q1, .int .i64 p.q2, .int .i64 p.l0, .int .i64 p.l1, .int .i64 p.l2, .string p.image, .int .i64 p.size] 29))
              have HQ := Lib.hid (HQd.out.below HB.out)
              have HV := Lib.hid (HVd.out.belowAll HB.out)
              have HRi := Lib.hid (HRd.out.below HB.out)
              have HRX := Lib.hid (HRXd.out.below HB.out)
              refine hK _ _ (abCells HQ.out HV.out) ?_
              have hHeld := (show ((w7).alloc (.cells #[.string p.id, .int .i64 p.prio, .bool p.crit, .int .i64 p.q0, .int .i64 p.q1, .int .i64 p.q2, .int .i64 p.l0, .int .i64 p.l1, .int .i64 p.l2, .string p.image, .int .i64 p.size] 29)).cell? ⟨w.heap.size + 1 + 1, 0, none⟩ = some (.string p.id) ∧ ((w7).alloc (.cells #[.string p.id, .int .i64 p.prio, .bool p.crit, .int .i64 p.q0, .int .i64 p.q1, .int .i64 p.q2, .int .i64 p.l0, .int .i64 p.l1, .int .i64 p.l2, .string p.image, .int .i64 p.size] 29)).cell? ⟨w.heap.size + 1 + 1, 1, none⟩ = some (.int .i64 p.prio) ∧ ((w7).alloc (.cells #[.string p.id, .int .i64 p.prio, .bool p.crit, .int .i64 p.q0, .int .i64 p.q1, .int .i64 p.q2, .int .i64 p.l0, .int .i64 p.l1, .int .i64 p.l2, .string p.image, .int .i64 p.size] 29)).cell? ⟨w.heap.size + 1 + 1, 2, none⟩ = some (.bool p.crit) ∧ ((w7).alloc (.cells #[.string p.id, .int .i64 p.prio, .bool p.crit, .int .i64 p.q0, .int .i64 p.q1, .int .i64 p.q2, .int .i64 p.l0, .int .i64 p.l1, .int .i64 p.l2, .string p.image, .int .i64 p.size] 29)).cell? ⟨w.heap.size + 1 + 1, 3, none⟩ = some (.int .i64 p.q0) ∧ ((w7).alloc (.cells #[.string p.id, .int .i64 p.prio, .bool p.crit, .int .i64 p.q0, .int .i64 p.q1, .int .i64 p.q2, .int .i64 p.l0, .int .i64 p.l1, .int .i64 p.l2, .string p.image, .int .i64 p.size] 29)).cell? ⟨w.heap.size + 1 + 1, 4, none⟩ = some (.int .i64 p.q1) ∧ ((w7).alloc (.cells #[.string p.id, .int .i64 p.prio, .bool p.crit, .int .i64 p.q0, .int .i64 p.q1, .int .i64 p.q2, .int .i64 p.l0, .int .i64 p.l1, .int .i64 p.l2, .string p.image, .int .i64 p.size] 29)).cell? ⟨w.heap.size + 1 + 1, 5, none⟩ = some (.int .i64 p.q2) ∧ ((w7).alloc (.cells #[.string p.id, .int .i64 p.prio, .bool p.crit, .int .i64 p.q0, .int .i64 p.q1, .int .i64 p.q2, .int .i64 p.l0, .int .i64 p.l1, .int .i64 p.l2, .string p.image, .int .i64 p.size] 29)).cell? ⟨w.heap.size + 1 + 1, 6, none⟩ = some (.int .i64 p.l0) ∧ ((w7).alloc (.cells #[.string p.id, .int .i64 p.prio, .bool p.crit, .int .i64 p.q0, .int .i64 p.q1, .int .i64 p.q2, .int .i64 p.l0, .int .i64 p.l1, .int .i64 p.l2, .string p.image, .int .i64 p.size] 29)).cell? ⟨w.heap.size + 1 + 1, 7, none⟩ = some (.int .i64 p.l1) ∧ ((w7).alloc (.cells #[.string p.id, .int .i64 p.prio, .bool p.crit, .int .i64 p.q0, .int .i64 p.q1, .int .i64 p.q2, .int .i64 p.l0, .int .i64 p.l1, .int .i64 p.l2, .string p.image, .int .i64 p.size] 29)).cell? ⟨w.heap.size + 1 + 1, 8, none⟩ = some (.int .i64 p.l2) ∧ ((w7).alloc (.cells #[.string p.id, .int .i64 p.prio, .bool p.crit, .int .i64 p.q0, .int .i64 p.q1, .int .i64 p.q2, .int .i64 p.l0, .int .i64 p.l1, .int .i64 p.l2, .string p.image, .int .i64 p.size] 29)).cell? ⟨w.heap.size + 1 + 1, 9, none⟩ = some (.string p.image) ∧ ((w7).alloc (.cells #[.string p.id, .int .i64 p.prio, .bool p.crit, .int .i64 p.q0, .int .i64 p.q1, .int .i64 p.q2, .int .i64 p.l0, .int .i64 p.l1, .int .i64 p.l2, .string p.image, .int .i64 p.size] 29)).cell? ⟨w.heap.size + 1 + 1, 10, none⟩ = some (.int .i64 p.size) ∧ ((w7).alloc (.cells #[.string p.id, .int .i64 p.prio, .bool p.crit, .int .i64 p.q0, .int .i64 p.q1, .int .i64 p.q2, .int .i64 p.l0, .int .i64 p.l1, .int .i64 p.l2, .string p.image, .int .i64 p.size] 29)).cell? ⟨w5.heap.size, 2, none⟩ = some (.slice Ax O.length cx) from abCells HQ.out HV.out)
              clear hK K
              simp only [Act.put, List.setIfInBounds_toArray, List.set_cons_zero, List.set_cons_succ]
              refine held_call 7 61 rfl rfl (by kernel_rfl) (by rfl) (fun K hK => ?_)
              refine wp_app (w7.alloc (.cells #[.string p.id, .int .i64 p.prio, .bool p.crit, .int .i64 p.q0, .int .i64 p.q1, .int .i64 p.q2, .int .i64 p.l0, .int .i64 p.l1, .int .i64 p.l2, .string p.image, .int .i64 p.size] 29)) elemP encP (.tmp 58) (.tmp 60) rfl wd.heap.size _ (leftD O (podsD l)) (by simp [Act.eval]) HOW.out _ [p] 1 (by simp [Act.eval]) HRW.out (by have := HPL.out; simp; omega) (by have := HPL.out; simp; omega) HB.out.size ?_
              intro A8 c8 w8 ho hg _
              have hb7 := HOW.out.belowGrown HB.out hg (Nat.le_refl _) HB.out.size
              have HOW := Lib.hid ho
              have HB := Lib.hid hb7
              clear ho hg hb7
              have HQ := Lib.hid (HQd.out.below HB.out)
              have HV := Lib.hid (HVd.out.belowAll HB.out)
              have HRi := Lib.hid (HRd.out.below HB.out)
              have HRX := Lib.hid (HRXd.out.below HB.out)
              refine hK _ _ (abCells HQ.out HV.out) ?_
              have hHeld := (show w8.cell? ⟨w.heap.size + 1 + 1, 0, none⟩ = some (.string p.id) ∧ w8.cell? ⟨w.heap.size + 1 + 1, 1, none⟩ = some (.int .i64 p.prio) ∧ w8.cell? ⟨w.heap.size + 1 + 1, 2, none⟩ = some (.bool p.crit) ∧ w8.cell? ⟨w.heap.size + 1 + 1, 3, none⟩ = some (.int .i64 p.q0) ∧ w8.cell? ⟨w.heap.size + 1 + 1, 4, none⟩ = some (.int .i64 p.q1) ∧ w8.cell? ⟨w.heap.size + 1 + 1, 5, none⟩ = some (.int .i64 p.q2) ∧ w8.cell? ⟨w.heap.size + 1 + 1, 6, none⟩ = some (.int .i64 p.l0) ∧ w8.cell? ⟨w.heap.size + 1 + 1, 7, none⟩ = some (.int .i64 p.l1) ∧ w8.cell? ⟨w.heap.size + 1 + 1, 8, none⟩ = some (.int .i64 p.l2) ∧ w8.cell? ⟨w.heap.size + 1 + 1, 9, none⟩ = some (.string p.image) ∧ w8.cell? ⟨w.heap.size + 1 + 1, 10, none⟩ = some (.int .i64 p.size) ∧ w8.cell? ⟨w5.heap.size, 2, none⟩ = some (.slice Ax O.length cx) from abCells HQ.out HV.out)
              clear hK K
              simp only [Act.put, List.setIfInBounds_toArray, List.set_cons_zero, List.set_cons_succ]
              refine held_take 8 11 (.slice A8 ((leftD O (podsD l)).length + [p].length) c8) rfl rfl (by kernel_rfl) (by kernel_rfl) (by kernel_rfl) (fun _ _ _ h => h) (by rfl) (by intro w' hSw; (try dsimp only at hSw); go_simp; (try (with_reducible rfl))) (by assumption) ?_
              simp only [Act.put, List.setIfInBounds_toArray, List.set_cons_zero, List.set_cons_succ]
              refine wpAnyH_done (by kernel_rfl) ?_ _
              clear hHeld
              go_wp2_with fail
              go_meet
              exact ⟨A8, c8, by simp, by have h := HOW.out.mono HBr.out.size; simpa [List.length_append] using h, below_rV HBr.out HB.out⟩
            · go_simp
              have HRW := Lib.hid (Rds.made (w6) encP [p] 29 #[.string p.id, .int .i64 p.prio, .bool p.crit, .int .i64 p.q0, .int .i64 p.q1, .int .i64 p.q2, .int .i64 p.l0, .int .i64 p.l1, .int .i64 p.l2, .string p.image, .int .i64 p.size] (0, 0) rfl)
              have HRP := Lib.hid (HRP.out.alloc (.cells #[.string p.id, .int .i64 p.prio, .bool p.crit, .int .i64 p.q0, .int .i64 p.q1, .int .i64 p.q2, .int .i64 p.l0, .int .i64 p.l1, .int .i64 p.l2, .string p.image, .int .i64 p.size] 29))
              have HB := Lib.hid (HB.out.alloc HB.out.size (.cells #[.string p.id, .int .i64 p.prio, .bool p.crit, .int .i64 p.q0, .int .i64 p.q1, .int .i64 p.q2, .int .i64 p.l0, .int .i64 p.l1, .int .i64 p.l2, .string p.image, .int .i64 p.size] 29))
              have HQ := Lib.hid (HQd.out.below HB.out)
              have HV := Lib.hid (HVd.out.belowAll HB.out)
              have HRi := Lib.hid (HRd.out.below HB.out)
              have HRX := Lib.hid (HRXd.out.below HB.out)
              refine hK _ _ (abCells HQ.out HV.out) ?_
              have hHeld := (show ((w6).alloc (.cells #[.string p.id, .int .i64 p.prio, .bool p.crit, .int .i64 p.q0, .int .i64 p.q1, .int .i64 p.q2, .int .i64 p.l0, .int .i64 p.l1, .int .i64 p.l2, .string p.image, .int .i64 p.size] 29)).cell? ⟨w.heap.size + 1 + 1, 0, none⟩ = some (.string p.id) ∧ ((w6).alloc (.cells #[.string p.id, .int .i64 p.prio, .bool p.crit, .int .i64 p.q0, .int .i64 p.q1, .int .i64 p.q2, .int .i64 p.l0, .int .i64 p.l1, .int .i64 p.l2, .string p.image, .int .i64 p.size] 29)).cell? ⟨w.heap.size + 1 + 1, 1, none⟩ = some (.int .i64 p.prio) ∧ ((w6).alloc (.cells #[.string p.id, .int .i64 p.prio, .bool p.crit, .int .i64 p.q0, .int .i64 p.q1, .int .i64 p.q2, .int .i64 p.l0, .int .i64 p.l1, .int .i64 p.l2, .string p.image, .int .i64 p.size] 29)).cell? ⟨w.heap.size + 1 + 1, 2, none⟩ = some (.bool p.crit) ∧ ((w6).alloc (.cells #[.string p.id, .int .i64 p.prio, .bool p.crit, .int .i64 p.q0, .int .i64 p.q1, .int .i64 p.q2, .int .i64 p.l0, .int .i64 p.l1, .int .i64 p.l2, .string p.image, .int .i64 p.size] 29)).cell? ⟨w.heap.size + 1 + 1, 3, none⟩ = some (.int .i64 p.q0) ∧ ((w6).alloc (.cells #[.string p.id, .int .i64 p.prio, .bool p.crit, .int .i64 p.q0, .int .i64 p.q1, .int .i64 p.q2, .int .i64 p.l0, .int .i64 p.l1, .int .i64 p.l2, .string p.image, .int .i64 p.size] 29)).cell? ⟨w.heap.size + 1 + 1, 4, none⟩ = some (.int .i64 p.q1) ∧ ((w6).alloc (.cells #[.string p.id, .int .i64 p.prio, .bool p.crit, .int .i64 p.q0, .int .i64 p.q1, .int .i64 p.q2, .int .i64 p.l0, .int .i64 p.l1, .int .i64 p.l2, .string p.image, .int .i64 p.size] 29)).cell? ⟨w.heap.size + 1 + 1, 5, none⟩ = some (.int .i64 p.q2) ∧ ((w6).alloc (.cells #[.string p.id, .int .i64 p.prio, .bool p.crit, .int .i64 p.q0, .int .i64 p.q1, .int .i64 p.q2, .int .i64 p.l0, .int .i64 p.l1, .int .i64 p.l2, .string p.image, .int .i64 p.size] 29)).cell? ⟨w.heap.size + 1 + 1, 6, none⟩ = some (.int .i64 p.l0) ∧ ((w6).alloc (.cells #[.string p.id, .int .i64 p.prio, .bool p.crit, .int .i64 p.q0, .int .i64 p.q1, .int .i64 p.q2, .int .i64 p.l0, .int .i64 p.l1, .int .i64 p.l2, .string p.image, .int .i64 p.size] 29)).cell? ⟨w.heap.size + 1 + 1, 7, none⟩ = some (.int .i64 p.l1) ∧ ((w6).alloc (.cells #[.string p.id, .int .i64 p.prio, .bool p.crit, .int .i64 p.q0, .int .i64 p.q1, .int .i64 p.q2, .int .i64 p.l0, .int .i64 p.l1, .int .i64 p.l2, .string p.image, .int .i64 p.size] 29)).cell? ⟨w.heap.size + 1 + 1, 8, none⟩ = some (.int .i64 p.l2) ∧ ((w6).alloc (.cells #[.string p.id, .int .i64 p.prio, .bool p.crit, .int .i64 p.q0, .int .i64 p.q1, .int .i64 p.q2, .int .i64 p.l0, .int .i64 p.l1, .int .i64 p.l2, .string p.image, .int .i64 p.size] 29)).cell? ⟨w.heap.size + 1 + 1, 9, none⟩ = some (.string p.image) ∧ ((w6).alloc (.cells #[.string p.id, .int .i64 p.prio, .bool p.crit, .int .i64 p.q0, .int .i64 p.q1, .int .i64 p.q2, .int .i64 p.l0, .int .i64 p.l1, .int .i64 p.l2, .string p.image, .int .i64 p.size] 29)).cell? ⟨w.heap.size + 1 + 1, 10, none⟩ = some (.int .i64 p.size) ∧ ((w6).alloc (.cells #[.string p.id, .int .i64 p.prio, .bool p.crit, .int .i64 p.q0, .int .i64 p.q1, .int .i64 p.q2, .int .i64 p.l0, .int .i64 p.l1, .int .i64 p.l2, .string p.image, .int .i64 p.size] 29)).cell? ⟨w5.heap.size, 2, none⟩ = some (.slice Ax O.length cx) from abCells HQ.out HV.out)
              clear hK K
              simp only [Act.put, List.setIfInBounds_toArray, List.set_cons_zero, List.set_cons_succ]
              refine held_call 4 58 rfl rfl (by kernel_rfl) (by rfl) (fun K hK => ?_)
              go_simp
              go_at_call 13; with_reducible refine (without_any (podsD l) O A6 Ax c6 cx _ HRP.out HRX.out (by have := HPL.out; omega) (by have := HPL.out; omega)).mono ?_; rintro e w7 ⟨A7, c7, rfl, ho, hb⟩
              have HBS5 := Lib.hid HB.out.size
              have HOW := Lib.hid (ho.mono HBS5.out)
              have HRW := Lib.hid (HRW.out.below hb)
              have HB := Lib.hid (below_rV HB.out hb)
              clear ho hb
              have HQ := Lib.hid (HQd.out.below HB.out)
              have HV := Lib.hid (HVd.out.belowAll HB.out)
              have HRi := Lib.hid (HRd.out.below HB.out)
              have HRX := Lib.hid (HRXd.out.below HB.out)
              refine hK _ _ (abCells HQ.out HV.out) ?_
              have hHeld := (show w7.cell? ⟨w.heap.size + 1 + 1, 0, none⟩ = some (.string p.id) ∧ w7.cell? ⟨w.heap.size + 1 + 1, 1, none⟩ = some (.int .i64 p.prio) ∧ w7.cell? ⟨w.heap.size + 1 + 1, 2, none⟩ = some (.bool p.crit) ∧ w7.cell? ⟨w.heap.size + 1 + 1, 3, none⟩ = some (.int .i64 p.q0) ∧ w7.cell? ⟨w.heap.size + 1 + 1, 4, none⟩ = some (.int .i64 p.q1) ∧ w7.cell? ⟨w.heap.size + 1 + 1, 5, none⟩ = some (.int .i64 p.q2) ∧ w7.cell? ⟨w.heap.size + 1 + 1, 6, none⟩ = some (.int .i64 p.l0) ∧ w7.cell? ⟨w.heap.size + 1 + 1, 7, none⟩ = some (.int .i64 p.l1) ∧ w7.cell? ⟨w.heap.size + 1 + 1, 8, none⟩ = some (.int .i64 p.l2) ∧ w7.cell? ⟨w.heap.size + 1 + 1, 9, none⟩ = some (.string p.image) ∧ w7.cell? ⟨w.heap.size + 1 + 1, 10, none⟩ = some (.int .i64 p.size) ∧ w7.cell? ⟨w5.heap.size, 2, none⟩ = some (.slice Ax O.length cx) from abCells HQ.out HV.out)
              clear hK K
              simp only [Act.put, List.setIfInBounds_toArray, List.set_cons_zero, List.set_cons_succ]
              refine held_call 7 61 rfl rfl (by kernel_rfl) (by rfl) (fun K hK => ?_)
              refine wp_app (w7) elemP encP (.tmp 58) (.tmp 60) rfl wd.heap.size _ (leftD O (podsD l)) (by simp [Act.eval]) HOW.out _ [p] 1 (by simp [Act.eval]) HRW.out (by have := HPL.out; simp; omega) (by have := HPL.out; simp; omega) HB.out.size ?_
              intro A8 c8 w8 ho hg _
              have hb7 := HOW.out.belowGrown HB.out hg (Nat.le_refl _) HB.out.size
              have HOW := Lib.hid ho
              have HB := Lib.hid hb7
              clear ho hg hb7
              have HQ := Lib.hid (HQd.out.below HB.out)
              have HV := Lib.hid (HVd.out.belowAll HB.out)
              have HRi := Lib.hid (HRd.out.below HB.out)
              have HRX := Lib.hid (HRXd.out.below HB.out)
              refine hK _ _ (abCells HQ.out HV.out) ?_
              have hHeld := (show w8.cell? ⟨w.heap.size + 1 + 1, 0, none⟩ = some (.string p.id) ∧ w8.cell? ⟨w.heap.size + 1 + 1, 1, none⟩ = some (.int .i64 p.prio) ∧ w8.cell? ⟨w.heap.size + 1 + 1, 2, none⟩ = some (.bool p.crit) ∧ w8.cell? ⟨w.heap.size + 1 + 1, 3, none⟩ = some (.int .i64 p.q0) ∧ w8.cell? ⟨w.heap.size + 1 + 1, 4, none⟩ = some (.int .i64 p.q1) ∧ w8.cell? ⟨w.heap.size + 1 + 1, 5, none⟩ = some (.int .i64 p.q2) ∧ w8.cell? ⟨w.heap.size + 1 + 1, 6, none⟩ = some (.int .i64 p.l0) ∧ w8.cell? ⟨w.heap.size + 1 + 1, 7, none⟩ = some (.int .i64 p.l1) ∧ w8.cell? ⟨w.heap.size + 1 + 1, 8, none⟩ = some (.int .i64 p.l2) ∧ w8.cell? ⟨w.heap.size + 1 + 1, 9, none⟩ = some (.string p.image) ∧ w8.cell? ⟨w.heap.size + 1 + 1, 10, none⟩ = some (.int .i64 p.size) ∧ w8.cell? ⟨w5.heap.size, 2, none⟩ = some (.slice Ax O.length cx) from abCells HQ.out HV.out)
              clear hK K
              simp only [Act.put, List.setIfInBounds_toArray, List.set_cons_zero, List.set_cons_succ]
              refine held_take 8 11 (.slice A8 ((leftD O (podsD l)).length + [p].length) c8) rfl rfl (by kernel_rfl) (by kernel_rfl) (by kernel_rfl) (fun _ _ _ h => h) (by rfl) (by intro w' hSw; (try dsimp only at hSw); go_simp; (try (with_reducible rfl))) (by assumption) ?_
              simp only [Act.put, List.setIfInBounds_toArray, List.set_cons_zero, List.set_cons_succ]
              refine wpAnyH_done (by kernel_rfl) ?_ _
              clear hHeld
              go_wp2_with fail
              go_meet
              exact ⟨A8, c8, by simp, by have h := HOW.out.mono HBr.out.size; simpa [List.length_append] using h, below_rV HBr.out HB.out⟩
          · go_simp
            have HRW := Lib.hid (Rds.made (wd) encP [p] 29 #[.string p.id, .int .i64 p.prio, .bool p.crit, .int .i64 p.q0, .int .i64 p.q1, .int .i64 p.q2, .int .i64 p.l0, .int .i64 p.l1, .int .i64 p.l2, .string p.image, .int .i64 p.size] (0, 0) rfl)
            have HB := Lib.hid (HB.out.alloc HB.out.size (.cells #[.string p.id, .int .i64 p.prio, .bool p.crit, .int .i64 p.q0, .int .i64 p.q1, .int .i64 p.q2, .int .i64 p.l0, .int .i64 p.l1, .int .i64 p.l2, .string p.image, .int .i64 p.size] 29))
            have HQ := Lib.hid (HQd.out.below HB.out)
            have HV := Lib.hid (HVd.out.belowAll HB.out)
            have HRi := Lib.hid (HRd.out.below HB.out)
            have HRX := Lib.hid (HRXd.out.below HB.out)
            refine hK _ _ (abCells HQ.out HV.out) ?_
            have hHeld := (show ((wd).alloc (.cells #[.string p.id, .int .i64 p.prio, .bool p.crit, .int .i64 p.q0, .int .i64 p.q1, .int .i64 p.q2, .int .i64 p.l0, .int .i64 p.l1, .int .i64 p.l2, .string p.image, .int .i64 p.size] 29)).cell? ⟨w.heap.size + 1 + 1, 0, none⟩ = some (.string p.id) ∧ ((wd).alloc (.cells #[.string p.id, .int .i64 p.prio, .bool p.crit, .int .i64 p.q0, .int .i64 p.q1, .int .i64 p.q2, .int .i64 p.l0, .int .i64 p.l1, .int .i64 p.l2, .string p.image, .int .i64 p.size] 29)).cell? ⟨w.heap.size + 1 + 1, 1, none⟩ = some (.int .i64 p.prio) ∧ ((wd).alloc (.cells #[.string p.id, .int .i64 p.prio, .bool p.crit, .int .i64 p.q0, .int .i64 p.q1, .int .i64 p.q2, .int .i64 p.l0, .int .i64 p.l1, .int .i64 p.l2, .string p.image, .int .i64 p.size] 29)).cell? ⟨w.heap.size + 1 + 1, 2, none⟩ = some (.bool p.crit) ∧ ((wd).alloc (.cells #[.string p.id, .int .i64 p.prio, .bool p.crit, .int .i64 p.q0, .int .i64 p.q1, .int .i64 p.q2, .int .i64 p.l0, .int .i64 p.l1, .int .i64 p.l2, .string p.image, .int .i64 p.size] 29)).cell? ⟨w.heap.size + 1 + 1, 3, none⟩ = some (.int .i64 p.q0) ∧ ((wd).alloc (.cells #[.string p.id, .int .i64 p.prio, .bool p.crit, .int .i64 p.q0, .int .i64 p.q1, .int .i64 p.q2, .int .i64 p.l0, .int .i64 p.l1, .int .i64 p.l2, .string p.image, .int .i64 p.size] 29)).cell? ⟨w.heap.size + 1 + 1, 4, none⟩ = some (.int .i64 p.q1) ∧ ((wd).alloc (.cells #[.string p.id, .int .i64 p.prio, .bool p.crit, .int .i64 p.q0, .int .i64 p.q1, .int .i64 p.q2, .int .i64 p.l0, .int .i64 p.l1, .int .i64 p.l2, .string p.image, .int .i64 p.size] 29)).cell? ⟨w.heap.size + 1 + 1, 5, none⟩ = some (.int .i64 p.q2) ∧ ((wd).alloc (.cells #[.string p.id, .int .i64 p.prio, .bool p.crit, .int .i64 p.q0, .int .i64 p.q1, .int .i64 p.q2, .int .i64 p.l0, .int .i64 p.l1, .int .i64 p.l2, .string p.image, .int .i64 p.size] 29)).cell? ⟨w.heap.size + 1 + 1, 6, none⟩ = some (.int .i64 p.l0) ∧ ((wd).alloc (.cells #[.string p.id, .int .i64 p.prio, .bool p.crit, .int .i64 p.q0, .int .i64 p.q1, .int .i64 p.q2, .int .i64 p.l0, .int .i64 p.l1, .int .i64 p.l2, .string p.image, .int .i64 p.size] 29)).cell? ⟨w.heap.size + 1 + 1, 7, none⟩ = some (.int .i64 p.l1) ∧ ((wd).alloc (.cells #[.string p.id, .int .i64 p.prio, .bool p.crit, .int .i64 p.q0, .int .i64 p.q1, .int .i64 p.q2, .int .i64 p.l0, .int .i64 p.l1, .int .i64 p.l2, .string p.image, .int .i64 p.size] 29)).cell? ⟨w.heap.size + 1 + 1, 8, none⟩ = some (.int .i64 p.l2) ∧ ((wd).alloc (.cells #[.string p.id, .int .i64 p.prio, .bool p.crit, .int .i64 p.q0, .int .i64 p.q1, .int .i64 p.q2, .int .i64 p.l0, .int .i64 p.l1, .int .i64 p.l2, .string p.image, .int .i64 p.size] 29)).cell? ⟨w.heap.size + 1 + 1, 9, none⟩ = some (.string p.image) ∧ ((wd).alloc (.cells #[.string p.id, .int .i64 p.prio, .bool p.crit, .int .i64 p.q0, .int .i64 p.q1, .int .i64 p.q2, .int .i64 p.l0, .int .i64 p.l1, .int .i64 p.l2, .string p.image, .int .i64 p.size] 29)).cell? ⟨w.heap.size + 1 + 1, 10, none⟩ = some (.int .i64 p.size) ∧ ((wd).alloc (.cells #[.string p.id, .int .i64 p.prio, .bool p.crit, .int .i64 p.q0, .int .i64 p.q1, .int .i64 p.q2, .int .i64 p.l0, .int .i64 p.l1, .int .i64 p.l2, .string p.image, .int .i64 p.size] 29)).cell? ⟨w5.heap.size, 2, none⟩ = some (.slice Ax O.length cx) from abCells HQ.out HV.out)
            clear hK K
            simp only [Act.put, List.setIfInBounds_toArray, List.set_cons_zero, List.set_cons_succ]
            refine held_call 1 55 rfl rfl (by kernel_rfl) (by rfl) (fun K hK => ?_)
            go_simp
            go_at_call 14; with_reducible refine (pods_any l Al cl _ HRi.out (by omega)).mono ?_; rintro e w6 ⟨A6, c6, rfl, ho, hb⟩
            have HRW := Lib.hid (HRW.out.below hb)
            have HRP := Lib.hid ho.toRds
            have HB := Lib.hid (below_rV HB.out hb)
            clear ho hb
            have HQ := Lib.hid (HQd.out.below HB.out)
            have HV := Lib.hid (HVd.out.belowAll HB.out)
            have HRi := Lib.hid (HRd.out.below HB.out)
            have HRX := Lib.hid (HRXd.out.below HB.out)
            refine hK _ _ (abCells HQ.out HV.out) ?_
            have hHeld := (show w6.cell? ⟨w.heap.size + 1 + 1, 0, none⟩ = some (.string p.id) ∧ w6.cell? ⟨w.heap.size + 1 + 1, 1, none⟩ = some (.int .i64 p.prio) ∧ w6.cell? ⟨w.heap.size + 1 + 1, 2, none⟩ = some (.bool p.crit) ∧ w6.cell? ⟨w.heap.size + 1 + 1, 3, none⟩ = some (.int .i64 p.q0) ∧ w6.cell? ⟨w.heap.size + 1 + 1, 4, none⟩ = some (.int .i64 p.q1) ∧ w6.cell? ⟨w.heap.size + 1 + 1, 5, none⟩ = some (.int .i64 p.q2) ∧ w6.cell? ⟨w.heap.size + 1 + 1, 6, none⟩ = some (.int .i64 p.l0) ∧ w6.cell? ⟨w.heap.size + 1 + 1, 7, none⟩ = some (.int .i64 p.l1) ∧ w6.cell? ⟨w.heap.size + 1 + 1, 8, none⟩ = some (.int .i64 p.l2) ∧ w6.cell? ⟨w.heap.size + 1 + 1, 9, none⟩ = some (.string p.image) ∧ w6.cell? ⟨w.heap.size + 1 + 1, 10, none⟩ = some (.int .i64 p.size) ∧ w6.cell? ⟨w5.heap.size, 2, none⟩ = some (.slice Ax O.length cx) from abCells HQ.out HV.out)
            clear hK K
            simp only [Act.put, List.setIfInBounds_toArray, List.set_cons_zero, List.set_cons_succ]
            refine held_call 4 58 rfl rfl (by kernel_rfl) (by rfl) (fun K hK => ?_)
            go_simp
            go_at_call 13; with_reducible refine (without_any (podsD l) O A6 Ax c6 cx _ HRP.out HRX.out (by have := HPL.out; omega) (by have := HPL.out; omega)).mono ?_; rintro e w7 ⟨A7, c7, rfl, ho, hb⟩
            have HBS5 := Lib.hid HB.out.size
            have HOW := Lib.hid (ho.mono HBS5.out)
            have HRW := Lib.hid (HRW.out.below hb)
            have HB := Lib.hid (below_rV HB.out hb)
            clear ho hb
            have HQ := Lib.hid (HQd.out.below HB.out)
            have HV := Lib.hid (HVd.out.belowAll HB.out)
            have HRi := Lib.hid (HRd.out.below HB.out)
            have HRX := Lib.hid (HRXd.out.below HB.out)
            refine hK _ _ (abCells HQ.out HV.out) ?_
            have hHeld := (show w7.cell? ⟨w.heap.size + 1 + 1, 0, none⟩ = some (.string p.id) ∧ w7.cell? ⟨w.heap.size + 1 + 1, 1, none⟩ = some (.int .i64 p.prio) ∧ w7.cell? ⟨w.heap.size + 1 + 1, 2, none⟩ = some (.bool p.crit) ∧ w7.cell? ⟨w.heap.size + 1 + 1, 3, none⟩ = some (.int .i64 p.q0) ∧ w7.cell? ⟨w.heap.size + 1 + 1, 4, none⟩ = some (.int .i64 p.q1) ∧ w7.cell? ⟨w.heap.size + 1 + 1, 5, none⟩ = some (.int .i64 p.q2) ∧ w7.cell? ⟨w.heap.size + 1 + 1, 6, none⟩ = some (.int .i64 p.l0) ∧ w7.cell? ⟨w.heap.size + 1 + 1, 7, none⟩ = some (.int .i64 p.l1) ∧ w7.cell? ⟨w.heap.size + 1 + 1, 8, none⟩ = some (.int .i64 p.l2) ∧ w7.cell? ⟨w.heap.size + 1 + 1, 9, none⟩ = some (.string p.image) ∧ w7.cell? ⟨w.heap.size + 1 + 1, 10, none⟩ = some (.int .i64 p.size) ∧ w7.cell? ⟨w5.heap.size, 2, none⟩ = some (.slice Ax O.length cx) from abCells HQ.out HV.out)
            clear hK K
            simp only [Act.put, List.setIfInBounds_toArray, List.set_cons_zero, List.set_cons_succ]
            refine held_call 7 61 rfl rfl (by kernel_rfl) (by rfl) (fun K hK => ?_)
            refine wp_app (w7) elemP encP (.tmp 58) (.tmp 60) rfl wd.heap.size _ (leftD O (podsD l)) (by simp [Act.eval]) HOW.out _ [p] 1 (by simp [Act.eval]) HRW.out (by have := HPL.out; simp; omega) (by have := HPL.out; simp; omega) HB.out.size ?_
            intro A8 c8 w8 ho hg _
            have hb7 := HOW.out.belowGrown HB.out hg (Nat.le_refl _) HB.out.size
            have HOW := Lib.hid ho
            have HB := Lib.hid hb7
            clear ho hg hb7
            have HQ := Lib.hid (HQd.out.below HB.out)
            have HV := Lib.hid (HVd.out.belowAll HB.out)
            have HRi := Lib.hid (HRd.out.below HB.out)
            have HRX := Lib.hid (HRXd.out.below HB.out)
            refine hK _ _ (abCells HQ.out HV.out) ?_
            have hHeld := (show w8.cell? ⟨w.heap.size + 1 + 1, 0, none⟩ = some (.string p.id) ∧ w8.cell? ⟨w.heap.size + 1 + 1, 1, none⟩ = some (.int .i64 p.prio) ∧ w8.cell? ⟨w.heap.size + 1 + 1, 2, none⟩ = some (.bool p.crit) ∧ w8.cell? ⟨w.heap.size + 1 + 1, 3, none⟩ = some (.int .i64 p.q0) ∧ w8.cell? ⟨w.heap.size + 1 + 1, 4, none⟩ = some (.int .i64 p.q1) ∧ w8.cell? ⟨w.heap.size + 1 + 1, 5, none⟩ = some (.int .i64 p.q2) ∧ w8.cell? ⟨w.heap.size + 1 + 1, 6, none⟩ = some (.int .i64 p.l0) ∧ w8.cell? ⟨w.heap.size + 1 + 1, 7, none⟩ = some (.int .i64 p.l1) ∧ w8.cell? ⟨w.heap.size + 1 + 1, 8, none⟩ = some (.int .i64 p.l2) ∧ w8.cell? ⟨w.heap.size + 1 + 1, 9, none⟩ = some (.string p.image) ∧ w8.cell? ⟨w.heap.size + 1 + 1, 10, none⟩ = some (.int .i64 p.size) ∧ w8.cell? ⟨w5.heap.size, 2, none⟩ = some (.slice Ax O.length cx) from abCells HQ.out HV.out)
            clear hK K
            simp only [Act.put, List.setIfInBounds_toArray, List.set_cons_zero, List.set_cons_succ]
            refine held_take 8 11 (.slice A8 ((leftD O (podsD l)).length + [p].length) c8) rfl rfl (by kernel_rfl) (by kernel_rfl) (by kernel_rfl) (fun _ _ _ h => h) (by rfl) (by intro w' hSw; (try dsimp only at hSw); go_simp; (try (with_reducible rfl))) (by assumption) ?_
            simp only [Act.put, List.setIfInBounds_toArray, List.set_cons_zero, List.set_cons_succ]
            refine wpAnyH_done (by kernel_rfl) ?_ _
            clear hHeld
            go_wp2_with fail
            go_meet
            exact ⟨A8, c8, by simp, by have h := HOW.out.mono HBr.out.size; simpa [List.length_append] using h, below_rV HBr.out HB.out⟩
        case rest =>
          obtain ⟨As, cs, rfl, ho8, hb8⟩ := hcut
          rename World => W6
          have HQ := Lib.hid (HQ.out.below hb8)
          have HV := Lib.hid (HV.out.belowAll hb8)
          have HS := Lib.hid ho8.toRds
          clear ho8 hb8 HBr
          have HSL : Hid ((leftD O (podsD l) ++ [p]).length ≤ 64) := by show _ ≤ _; have := HPL.out; rw [List.length_append]; simp; omega
          have HFA := Lib.hid HMIN.out.a
          have HOL := Lib.hid HPL.out.2.1
          clear HMIN HPL HRX HRi
          generalize leftD O (podsD l) ++ [p] = ST at *
          have ccf := HQ.out.cf.cell
          go_wp2_with fail
          refine (withinV HFA.out rfl HS.out HSL.out HWS.out HROOM.out.1 HROOM.out.2.1 HROOM.out.2.2).mono ?_; rintro e w9 ⟨rfl, hb⟩
          have HQ := Lib.hid (HQ.out.below hb)
          have HV := Lib.hid (HV.out.belowAll hb)
          clear hb ccf
          have cv := HV.out.cell
          go_wp2_with fail
          go_ret
          exact ⟨rfl, HQ.out.bel⟩
      · obtain rfl : k = 2 := hk2
        have dO : decide ((0 : Int) < (O.length : Int)) = true := decide_eq_true (by omega)
        have dOn : decide (0 < O.length) = true := decide_eq_true hO
        clear HKV hO
        have cv := HV.out.cell
        go_wp2_with fail
        clear cv
        generalize (w5.alloc (.cells #[.int .i64 2, .int .i64 0, .slice Ax O.length cx] 36)) = W5 at *
        have hBr : Below W5.heap.size W5 W5.drew := (Below.refl _ _).drew
        have HBr := Lib.hid hBr
        clear hBr
        go_cut [11] (fun st W => ∃ A8 c8, st = .slice A8 (leftD O (podsD l) ++ [p]).length c8 ∧ Own W W5.heap.size 29 encP (.slice A8 (leftD O (podsD l) ++ [p]).length c8) (leftD O (podsD l) ++ [p]) ∧ Below W5.heap.size W5 W)
        case first =>
          have HQd := Lib.hid HQ.out.drew
          have HVd := Lib.hid HV.out.drew
          have HRd := Lib.hid HRi.out.drew
          have HRXd := Lib.hid HRX.out.drew
          refine wp_region_held_drew (S := (fun w' => w'.cell? ⟨w.heap.size + 1 + 1, 0, none⟩ = some (.string p.id) ∧ w'.cell? ⟨w.heap.size + 1 + 1, 1, none⟩ = some (.int .i64 p.prio) ∧ w'.cell? ⟨w.heap.size + 1 + 1, 2, none⟩ = some (.bool p.crit) ∧ w'.cell? ⟨w.heap.size + 1 + 1, 3, none⟩ = some (.int .i64 p.q0) ∧ w'.cell? ⟨w.heap.size + 1 + 1, 4, none⟩ = some (.int .i64 p.q1) ∧ w'.cell? ⟨w.heap.size + 1 + 1, 5, none⟩ = some (.int .i64 p.q2) ∧ w'.cell? ⟨w.heap.size + 1 + 1, 6, none⟩ = some (.int .i64 p.l0) ∧ w'.cell? ⟨w.heap.size + 1 + 1, 7, none⟩ = some (.int .i64 p.l1) ∧ w'.cell? ⟨w.heap.size + 1 + 1, 8, none⟩ = some (.int .i64 p.l2) ∧ w'.cell? ⟨w.heap.size + 1 + 1, 9, none⟩ = some (.string p.image) ∧ w'.cell? ⟨w.heap.size + 1 + 1, 10, none⟩ = some (.int .i64 p.size) ∧ w'.cell? ⟨w5.heap.size, 2, none⟩ = some (.slice Ax O.length cx))) (by kernel_rfl) (abCells HQd.out HVd.out) (fun hHeld => ?_)
          generalize W5.drew = wd at *
          have hb0 : Below wd.heap.size wd wd := Below.refl _ _
          have HB := Lib.hid hb0
          clear hb0
          have HQ := HQd
          have HV := HVd
          have HRi := HRd
          have HRX := HRXd
          refine held_take 0 54 (.slice Al l.length cl) rfl rfl (by kernel_rfl) (by kernel_rfl) (by kernel_rfl) (fun _ _ _ h => h) (by rfl) (by intro w' hSw; (try dsimp only at hSw); go_simp; (try (with_reducible rfl))) (by assumption) ?_
          simp only [Act.put, List.setIfInBounds_toArray, List.set_cons_zero, List.set_cons_succ]
          refine held_take 2 56 (.pointer (some ⟨w5.heap.size, 2, none⟩)) rfl rfl (by kernel_rfl) (by kernel_rfl) (by kernel_rfl) (fun _ _ _ h => h) (by rfl) (by intro w' hSw; (try dsimp only at hSw); go_simp; (try (with_reducible rfl))) (by assumption) ?_
          simp only [Act.put, List.setIfInBounds_toArray, List.set_cons_zero, List.set_cons_succ]
          refine held_take 3 57 (.slice Ax O.length cx) rfl rfl (by kernel_rfl) (by kernel_rfl) (by kernel_rfl) (fun _ _ _ h => h) (by rfl) (by intro w' hSw; (try dsimp only at hSw); go_simp; (try (with_reducible rfl))) (by assumption) ?_
          simp only [Act.put, List.setIfInBounds_toArray, List.set_cons_zero, List.set_cons_succ]
          refine held_take 5 59 (.agg #[.string p.id, .int .i64 p.prio, .bool p.crit, .int .i64 p.q0, .int .i64 p.q1, .int .i64 p.q2, .int .i64 p.l0, .int .i64 p.l1, .int .i64 p.l2, .string p.image, .int .i64 p.size]) rfl rfl (by kernel_rfl) (by kernel_rfl) (by kernel_rfl) (fun _ _ _ h => h) (by rfl) (by intro w' hSw; (try dsimp only at hSw); go_simp; (try (with_reducible rfl))) (by assumption) ?_
          simp only [Act.put, List.setIfInBounds_toArray, List.set_cons_zero, List.set_cons_succ]
          refine held_twoD 1 6 55 60 rfl rfl rfl rfl (by kernel_rfl) (by rfl) (by rfl) (fun K hK => ?_) (fun K hK => ?_)
          · go_simp
            go_at_call 14; with_reducible refine (pods_any l Al cl _ HRi.out (by omega)).mono ?_; rintro e w6 ⟨A6, c6, rfl, ho, hb⟩
            have HRP := Lib.hid ho.toRds
            have HB := Lib.hid (below_rV HB.out hb)
            clear ho hb
            have HQ := Lib.hid (HQd.out.below HB.out)
            have HV := Lib.hid (HVd.out.belowAll HB.out)
            have HRi := Lib.hid (HRd.out.below HB.out)
            have HRX := Lib.hid (HRXd.out.below HB.out)
            refine hK _ _ (abCells HQ.out HV.out) ?_
            have hHeld := (show w6.cell? ⟨w.heap.size + 1 + 1, 0, none⟩ = some (.string p.id) ∧ w6.cell? ⟨w.heap.size + 1 + 1, 1, none⟩ = some (.int .i64 p.prio) ∧ w6.cell? ⟨w.heap.size + 1 + 1, 2, none⟩ = some (.bool p.crit) ∧ w6.cell? ⟨w.heap.size + 1 + 1, 3, none⟩ = some (.int .i64 p.q0) ∧ w6.cell? ⟨w.heap.size + 1 + 1, 4, none⟩ = some (.int .i64 p.q1) ∧ w6.cell? ⟨w.heap.size + 1 + 1, 5, none⟩ = some (.int .i64 p.q2) ∧ w6.cell? ⟨w.heap.size + 1 + 1, 6, none⟩ = some (.int .i64 p.l0) ∧ w6.cell? ⟨w.heap.size + 1 + 1, 7, none⟩ = some (.int .i64 p.l1) ∧ w6.cell? ⟨w.heap.size + 1 + 1, 8, none⟩ = some (.int .i64 p.l2) ∧ w6.cell? ⟨w.heap.size + 1 + 1, 9, none⟩ = some (.string p.image) ∧ w6.cell? ⟨w.heap.size + 1 + 1, 10, none⟩ = some (.int .i64 p.size) ∧ w6.cell? ⟨w5.heap.size, 2, none⟩ = some (.slice Ax O.length cx) from abCells HQ.out HV.out)
            clear hK K
            simp only [Act.put, List.setIfInBounds_toArray, List.set_cons_zero, List.set_cons_succ]
            refine held_twoD 4 6 58 60 rfl rfl rfl rfl (by kernel_rfl) (by rfl) (by rfl) (fun K hK => ?_) (fun K hK => ?_)
            · go_simp
              go_at_call 13; with_reducible refine (without_any (podsD l) O A6 Ax c6 cx _ HRP.out HRX.out (by have := HPL.out; omega) (by have := HPL.out; omega)).mono ?_; rintro e w7 ⟨A7, c7, rfl, ho, hb⟩
              have HBS5 := Lib.hid HB.out.size
              have HOW := Lib.hid (ho.mono HBS5.out)
              have HB := Lib.hid (below_rV HB.out hb)
              clear ho hb
              have HQ := Lib.hid (HQd.out.below HB.out)
              have HV := Lib.hid (HVd.out.belowAll HB.out)
              have HRi := Lib.hid (HRd.out.below HB.out)
              have HRX := Lib.hid (HRXd.out.below HB.out)
              refine hK _ _ (abCells HQ.out HV.out) ?_
              have hHeld := (show w7.cell? ⟨w.heap.size + 1 + 1, 0, none⟩ = some (.string p.id) ∧ w7.cell? ⟨w.heap.size + 1 + 1, 1, none⟩ = some (.int .i64 p.prio) ∧ w7.cell? ⟨w.heap.size + 1 + 1, 2, none⟩ = some (.bool p.crit) ∧ w7.cell? ⟨w.heap.size + 1 + 1, 3, none⟩ = some (.int .i64 p.q0) ∧ w7.cell? ⟨w.heap.size + 1 + 1, 4, none⟩ = some (.int .i64 p.q1) ∧ w7.cell? ⟨w.heap.size + 1 + 1, 5, none⟩ = some (.int .i64 p.q2) ∧ w7.cell? ⟨w.heap.size + 1 + 1, 6, none⟩ = some (.int .i64 p.l0) ∧ w7.cell? ⟨w.heap.size + 1 + 1, 7, none⟩ = some (.int .i64 p.l1) ∧ w7.cell? ⟨w.heap.size + 1 + 1, 8, none⟩ = some (.int .i64 p.l2) ∧ w7.cell? ⟨w.heap.size + 1 + 1, 9, none⟩ = some (.string p.image) ∧ w7.cell? ⟨w.heap.size + 1 + 1, 10, none⟩ = some (.int .i64 p.size) ∧ w7.cell? ⟨w5.heap.size, 2, none⟩ = some (.slice Ax O.length cx) from abCells HQ.out HV.out)
              clear hK K
              simp only [Act.put, List.setIfInBounds_toArray, List.set_cons_zero, List.set_cons_succ]
              refine held_call 6 60 rfl rfl (by kernel_rfl) (by rfl) (fun K hK => ?_)
              go_simp
              have HRW := Lib.hid (Rds.made (w7) encP [p] 29 #[.string p.id, .int .i64 p.prio, .bool p.crit, .int .i64 p.q0, .int .i64 p.q1, .int .i64 p.q2, .int .i64 p.l0, .int .i64 p.l1, .int .i64 p.l2, .string p.image, .int .i64 p.size] (0, 0) rfl)
              have HOW := Lib.hid (HOW.out.alloc (.cells #[.string p.id, .int .i64 p.prio, .bool p.crit, .int .i64 p.q0, .int .i64 p.q1, .int .i64 p.q2, .int .i64 p.l0, .int .i64 p.l1, .int .i64 p.l2, .string p.image, .int .i64 p.size] 29))
              have HB := Lib.hid (HB.out.alloc HB.out.size (.cells #[.string p.id, .int .i64 p.prio, .bool p.crit, .int .i64 p.q0, .int .i64 p.q1, .int .i64 p.q2, .int .i64 p.l0, .int .i64 p.l1, .int .i64 p.l2, .string p.image, .int .i64 p.size] 29))
              have HQ := Lib.hid (HQd.out.below HB.out)
              have HV := Lib.hid (HVd.out.belowAll HB.out)
              have HRi := Lib.hid (HRd.out.below HB.out)
              have HRX := Lib.hid (HRXd.out.below HB.out)
              refine hK _ _ (abCells HQ.out HV.out) ?_
              have hHeld := (show ((w7).alloc (.cells #[.string p.id, .int .i64 p.prio, .bool p.crit, .int .i64 p.q0, .int .i64 p.q1, .int .i64 p.q2, .int .i64 p.l0, .int .i64 p.l1, .int .i64 p.l2, .string p.image, .int .i64 p.size] 29)).cell? ⟨w.heap.size + 1 + 1, 0, none⟩ = some (.string p.id) ∧ ((w7).alloc (.cells #[.string p.id, .int .i64 p.prio, .bool p.crit, .int .i64 p.q0, .int .i64 p.q1, .int .i64 p.q2, .int .i64 p.l0, .int .i64 p.l1, .int .i64 p.l2, .string p.image, .int .i64 p.size] 29)).cell? ⟨w.heap.size + 1 + 1, 1, none⟩ = some (.int .i64 p.prio) ∧ ((w7).alloc (.cells #[.string p.id, .int .i64 p.prio, .bool p.crit, .int .i64 p.q0, .int .i64 p.q1, .int .i64 p.q2, .int .i64 p.l0, .int .i64 p.l1, .int .i64 p.l2, .string p.image, .int .i64 p.size] 29)).cell? ⟨w.heap.size + 1 + 1, 2, none⟩ = some (.bool p.crit) ∧ ((w7).alloc (.cells #[.string p.id, .int .i64 p.prio, .bool p.crit, .int .i64 p.q0, .int .i64 p.q1, .int .i64 p.q2, .int .i64 p.l0, .int .i64 p.l1, .int .i64 p.l2, .string p.image, .int .i64 p.size] 29)).cell? ⟨w.heap.size + 1 + 1, 3, none⟩ = some (.int .i64 p.q0) ∧ ((w7).alloc (.cells #[.string p.id, .int .i64 p.prio, .bool p.crit, .int .i64 p.q0, .int .i64 p.q1, .int .i64 p.q2, .int .i64 p.l0, .int .i64 p.l1, .int .i64 p.l2, .string p.image, .int .i64 p.size] 29)).cell? ⟨w.heap.size + 1 + 1, 4, none⟩ = some (.int .i64 p.q1) ∧ ((w7).alloc (.cells #[.string p.id, .int .i64 p.prio, .bool p.crit, .int .i64 p.q0, .int .i64 p.q1, .int .i64 p.q2, .int .i64 p.l0, .int .i64 p.l1, .int .i64 p.l2, .string p.image, .int .i64 p.size] 29)).cell? ⟨w.heap.size + 1 + 1, 5, none⟩ = some (.int .i64 p.q2) ∧ ((w7).alloc (.cells #[.string p.id, .int .i64 p.prio, .bool p.crit, .int .i64 p.q0, .int .i64 p.q1, .int .i64 p.q2, .int .i64 p.l0, .int .i64 p.l1, .int .i64 p.l2, .string p.image, .int .i64 p.size] 29)).cell? ⟨w.heap.size + 1 + 1, 6, none⟩ = some (.int .i64 p.l0) ∧ ((w7).alloc (.cells #[.string p.id, .int .i64 p.prio, .bool p.crit, .int .i64 p.q0, .int .i64 p.q1, .int .i64 p.q2, .int .i64 p.l0, .int .i64 p.l1, .int .i64 p.l2, .string p.image, .int .i64 p.size] 29)).cell? ⟨w.heap.size + 1 + 1, 7, none⟩ = some (.int .i64 p.l1) ∧ ((w7).alloc (.cells #[.string p.id, .int .i64 p.prio, .bool p.crit, .int .i64 p.q0, .int .i64 p.q1, .int .i64 p.q2, .int .i64 p.l0, .int .i64 p.l1, .int .i64 p.l2, .string p.image, .int .i64 p.size] 29)).cell? ⟨w.heap.size + 1 + 1, 8, none⟩ = some (.int .i64 p.l2) ∧ ((w7).alloc (.cells #[.string p.id, .int .i64 p.prio, .bool p.crit, .int .i64 p.q0, .int .i64 p.q1, .int .i64 p.q2, .int .i64 p.l0, .int .i64 p.l1, .int .i64 p.l2, .string p.image, .int .i64 p.size] 29)).cell? ⟨w.heap.size + 1 + 1, 9, none⟩ = some (.string p.image) ∧ ((w7).alloc (.cells #[.string p.id, .int .i64 p.prio, .bool p.crit, .int .i64 p.q0, .int .i64 p.q1, .int .i64 p.q2, .int .i64 p.l0, .int .i64 p.l1, .int .i64 p.l2, .string p.image, .int .i64 p.size] 29)).cell? ⟨w.heap.size + 1 + 1, 10, none⟩ = some (.int .i64 p.size) ∧ ((w7).alloc (.cells #[.string p.id, .int .i64 p.prio, .bool p.crit, .int .i64 p.q0, .int .i64 p.q1, .int .i64 p.q2, .int .i64 p.l0, .int .i64 p.l1, .int .i64 p.l2, .string p.image, .int .i64 p.size] 29)).cell? ⟨w5.heap.size, 2, none⟩ = some (.slice Ax O.length cx) from abCells HQ.out HV.out)
              clear hK K
              simp only [Act.put, List.setIfInBounds_toArray, List.set_cons_zero, List.set_cons_succ]
              refine held_call 7 61 rfl rfl (by kernel_rfl) (by rfl) (fun K hK => ?_)
              refine wp_app (w7.alloc (.cells #[.string p.id, .int .i64 p.prio, .bool p.crit, .int .i64 p.q0, .int .i64 p.q1, .int .i64 p.q2, .int .i64 p.l0, .int .i64 p.l1, .int .i64 p.l2, .string p.image, .int .i64 p.size] 29)) elemP encP (.tmp 58) (.tmp 60) rfl wd.heap.size _ (leftD O (podsD l)) (by simp [Act.eval]) HOW.out _ [p] 1 (by simp [Act.eval]) HRW.out (by have := HPL.out; simp; omega) (by have := HPL.out; simp; omega) HB.out.size ?_
              intro A8 c8 w8 ho hg _
              have hb7 := HOW.out.belowGrown HB.out hg (Nat.le_refl _) HB.out.size
              have HOW := Lib.hid ho
              have HB := Lib.hid hb7
              clear ho hg hb7
              have HQ := Lib.hid (HQd.out.below HB.out)
              have HV := Lib.hid (HVd.out.belowAll HB.out)
              have HRi := Lib.hid (HRd.out.below HB.out)
              have HRX := Lib.hid (HRXd.out.below HB.out)
              refine hK _ _ (abCells HQ.out HV.out) ?_
              have hHeld := (show w8.cell? ⟨w.heap.size + 1 + 1, 0, none⟩ = some (.string p.id) ∧ w8.cell? ⟨w.heap.size + 1 + 1, 1, none⟩ = some (.int .i64 p.prio) ∧ w8.cell? ⟨w.heap.size + 1 + 1, 2, none⟩ = some (.bool p.crit) ∧ w8.cell? ⟨w.heap.size + 1 + 1, 3, none⟩ = some (.int .i64 p.q0) ∧ w8.cell? ⟨w.heap.size + 1 + 1, 4, none⟩ = some (.int .i64 p.q1) ∧ w8.cell? ⟨w.heap.size + 1 + 1, 5, none⟩ = some (.int .i64 p.q2) ∧ w8.cell? ⟨w.heap.size + 1 + 1, 6, none⟩ = some (.int .i64 p.l0) ∧ w8.cell? ⟨w.heap.size + 1 + 1, 7, none⟩ = some (.int .i64 p.l1) ∧ w8.cell? ⟨w.heap.size + 1 + 1, 8, none⟩ = some (.int .i64 p.l2) ∧ w8.cell? ⟨w.heap.size + 1 + 1, 9, none⟩ = some (.string p.image) ∧ w8.cell? ⟨w.heap.size + 1 + 1, 10, none⟩ = some (.int .i64 p.size) ∧ w8.cell? ⟨w5.heap.size, 2, none⟩ = some (.slice Ax O.length cx) from abCells HQ.out HV.out)
              clear hK K
              simp only [Act.put, List.setIfInBounds_toArray, List.set_cons_zero, List.set_cons_succ]
              refine held_take 8 11 (.slice A8 ((leftD O (podsD l)).length + [p].length) c8) rfl rfl (by kernel_rfl) (by kernel_rfl) (by kernel_rfl) (fun _ _ _ h => h) (by rfl) (by intro w' hSw; (try dsimp only at hSw); go_simp; (try (with_reducible rfl))) (by assumption) ?_
              simp only [Act.put, List.setIfInBounds_toArray, List.set_cons_zero, List.set_cons_succ]
              refine wpAnyH_done (by kernel_rfl) ?_ _
              clear hHeld
              go_wp2_with fail
              go_meet
              exact ⟨A8, c8, by simp, by have h := HOW.out.mono HBr.out.size; simpa [List.length_append] using h, below_rV HBr.out HB.out⟩
            · go_simp
              have HRW := Lib.hid (Rds.made (w6) encP [p] 29 #[.string p.id, .int .i64 p.prio, .bool p.crit, .int .i64 p.q0, .int .i64 p.q1, .int .i64 p.q2, .int .i64 p.l0, .int .i64 p.l1, .int .i64 p.l2, .string p.image, .int .i64 p.size] (0, 0) rfl)
              have HRP := Lib.hid (HRP.out.alloc (.cells #[.string p.id, .int .i64 p.prio, .bool p.crit, .int .i64 p.q0, .int .i64 p.q1, .int .i64 p.q2, .int .i64 p.l0, .int .i64 p.l1, .int .i64 p.l2, .string p.image, .int .i64 p.size] 29))
              have HB := Lib.hid (HB.out.alloc HB.out.size (.cells #[.string p.id, .int .i64 p.prio, .bool p.crit, .int .i64 p.q0, .int .i64 p.q1, .int .i64 p.q2, .int .i64 p.l0, .int .i64 p.l1, .int .i64 p.l2, .string p.image, .int .i64 p.size] 29))
              have HQ := Lib.hid (HQd.out.below HB.out)
              have HV := Lib.hid (HVd.out.belowAll HB.out)
              have HRi := Lib.hid (HRd.out.below HB.out)
              have HRX := Lib.hid (HRXd.out.below HB.out)
              refine hK _ _ (abCells HQ.out HV.out) ?_
              have hHeld := (show ((w6).alloc (.cells #[.string p.id, .int .i64 p.prio, .bool p.crit, .int .i64 p.q0, .int .i64 p.q1, .int .i64 p.q2, .int .i64 p.l0, .int .i64 p.l1, .int .i64 p.l2, .string p.image, .int .i64 p.size] 29)).cell? ⟨w.heap.size + 1 + 1, 0, none⟩ = some (.string p.id) ∧ ((w6).alloc (.cells #[.string p.id, .int .i64 p.prio, .bool p.crit, .int .i64 p.q0, .int .i64 p.q1, .int .i64 p.q2, .int .i64 p.l0, .int .i64 p.l1, .int .i64 p.l2, .string p.image, .int .i64 p.size] 29)).cell? ⟨w.heap.size + 1 + 1, 1, none⟩ = some (.int .i64 p.prio) ∧ ((w6).alloc (.cells #[.string p.id, .int .i64 p.prio, .bool p.crit, .int .i64 p.q0, .int .i64 p.q1, .int .i64 p.q2, .int .i64 p.l0, .int .i64 p.l1, .int .i64 p.l2, .string p.image, .int .i64 p.size] 29)).cell? ⟨w.heap.size + 1 + 1, 2, none⟩ = some (.bool p.crit) ∧ ((w6).alloc (.cells #[.string p.id, .int .i64 p.prio, .bool p.crit, .int .i64 p.q0, .int .i64 p.q1, .int .i64 p.q2, .int .i64 p.l0, .int .i64 p.l1, .int .i64 p.l2, .string p.image, .int .i64 p.size] 29)).cell? ⟨w.heap.size + 1 + 1, 3, none⟩ = some (.int .i64 p.q0) ∧ ((w6).alloc (.cells #[.string p.id, .int .i64 p.prio, .bool p.crit, .int .i64 p.q0, .int .i64 p.q1, .int .i64 p.q2, .int .i64 p.l0, .int .i64 p.l1, .int .i64 p.l2, .string p.image, .int .i64 p.size] 29)).cell? ⟨w.heap.size + 1 + 1, 4, none⟩ = some (.int .i64 p.q1) ∧ ((w6).alloc (.cells #[.string p.id, .int .i64 p.prio, .bool p.crit, .int .i64 p.q0, .int .i64 p.q1, .int .i64 p.q2, .int .i64 p.l0, .int .i64 p.l1, .int .i64 p.l2, .string p.image, .int .i64 p.size] 29)).cell? ⟨w.heap.size + 1 + 1, 5, none⟩ = some (.int .i64 p.q2) ∧ ((w6).alloc (.cells #[.string p.id, .int .i64 p.prio, .bool p.crit, .int .i64 p.q0, .int .i64 p.q1, .int .i64 p.q2, .int .i64 p.l0, .int .i64 p.l1, .int .i64 p.l2, .string p.image, .int .i64 p.size] 29)).cell? ⟨w.heap.size + 1 + 1, 6, none⟩ = some (.int .i64 p.l0) ∧ ((w6).alloc (.cells #[.string p.id, .int .i64 p.prio, .bool p.crit, .int .i64 p.q0, .int .i64 p.q1, .int .i64 p.q2, .int .i64 p.l0, .int .i64 p.l1, .int .i64 p.l2, .string p.image, .int .i64 p.size] 29)).cell? ⟨w.heap.size + 1 + 1, 7, none⟩ = some (.int .i64 p.l1) ∧ ((w6).alloc (.cells #[.string p.id, .int .i64 p.prio, .bool p.crit, .int .i64 p.q0, .int .i64 p.q1, .int .i64 p.q2, .int .i64 p.l0, .int .i64 p.l1, .int .i64 p.l2, .string p.image, .int .i64 p.size] 29)).cell? ⟨w.heap.size + 1 + 1, 8, none⟩ = some (.int .i64 p.l2) ∧ ((w6).alloc (.cells #[.string p.id, .int .i64 p.prio, .bool p.crit, .int .i64 p.q0, .int .i64 p.q1, .int .i64 p.q2, .int .i64 p.l0, .int .i64 p.l1, .int .i64 p.l2, .string p.image, .int .i64 p.size] 29)).cell? ⟨w.heap.size + 1 + 1, 9, none⟩ = some (.string p.image) ∧ ((w6).alloc (.cells #[.string p.id, .int .i64 p.prio, .bool p.crit, .int .i64 p.q0, .int .i64 p.q1, .int .i64 p.q2, .int .i64 p.l0, .int .i64 p.l1, .int .i64 p.l2, .string p.image, .int .i64 p.size] 29)).cell? ⟨w.heap.size + 1 + 1, 10, none⟩ = some (.int .i64 p.size) ∧ ((w6).alloc (.cells #[.string p.id, .int .i64 p.prio, .bool p.crit, .int .i64 p.q0, .int .i64 p.q1, .int .i64 p.q2, .int .i64 p.l0, .int .i64 p.l1, .int .i64 p.l2, .string p.image, .int .i64 p.size] 29)).cell? ⟨w5.heap.size, 2, none⟩ = some (.slice Ax O.length cx) from abCells HQ.out HV.out)
              clear hK K
              simp only [Act.put, List.setIfInBounds_toArray, List.set_cons_zero, List.set_cons_succ]
              refine held_call 4 58 rfl rfl (by kernel_rfl) (by rfl) (fun K hK => ?_)
              go_simp
              go_at_call 13; with_reducible refine (without_any (podsD l) O A6 Ax c6 cx _ HRP.out HRX.out (by have := HPL.out; omega) (by have := HPL.out; omega)).mono ?_; rintro e w7 ⟨A7, c7, rfl, ho, hb⟩
              have HBS5 := Lib.hid HB.out.size
              have HOW := Lib.hid (ho.mono HBS5.out)
              have HRW := Lib.hid (HRW.out.below hb)
              have HB := Lib.hid (below_rV HB.out hb)
              clear ho hb
              have HQ := Lib.hid (HQd.out.below HB.out)
              have HV := Lib.hid (HVd.out.belowAll HB.out)
              have HRi := Lib.hid (HRd.out.below HB.out)
              have HRX := Lib.hid (HRXd.out.below HB.out)
              refine hK _ _ (abCells HQ.out HV.out) ?_
              have hHeld := (show w7.cell? ⟨w.heap.size + 1 + 1, 0, none⟩ = some (.string p.id) ∧ w7.cell? ⟨w.heap.size + 1 + 1, 1, none⟩ = some (.int .i64 p.prio) ∧ w7.cell? ⟨w.heap.size + 1 + 1, 2, none⟩ = some (.bool p.crit) ∧ w7.cell? ⟨w.heap.size + 1 + 1, 3, none⟩ = some (.int .i64 p.q0) ∧ w7.cell? ⟨w.heap.size + 1 + 1, 4, none⟩ = some (.int .i64 p.q1) ∧ w7.cell? ⟨w.heap.size + 1 + 1, 5, none⟩ = some (.int .i64 p.q2) ∧ w7.cell? ⟨w.heap.size + 1 + 1, 6, none⟩ = some (.int .i64 p.l0) ∧ w7.cell? ⟨w.heap.size + 1 + 1, 7, none⟩ = some (.int .i64 p.l1) ∧ w7.cell? ⟨w.heap.size + 1 + 1, 8, none⟩ = some (.int .i64 p.l2) ∧ w7.cell? ⟨w.heap.size + 1 + 1, 9, none⟩ = some (.string p.image) ∧ w7.cell? ⟨w.heap.size + 1 + 1, 10, none⟩ = some (.int .i64 p.size) ∧ w7.cell? ⟨w5.heap.size, 2, none⟩ = some (.slice Ax O.length cx) from abCells HQ.out HV.out)
              clear hK K
              simp only [Act.put, List.setIfInBounds_toArray, List.set_cons_zero, List.set_cons_succ]
              refine held_call 7 61 rfl rfl (by kernel_rfl) (by rfl) (fun K hK => ?_)
              refine wp_app (w7) elemP encP (.tmp 58) (.tmp 60) rfl wd.heap.size _ (leftD O (podsD l)) (by simp [Act.eval]) HOW.out _ [p] 1 (by simp [Act.eval]) HRW.out (by have := HPL.out; simp; omega) (by have := HPL.out; simp; omega) HB.out.size ?_
              intro A8 c8 w8 ho hg _
              have hb7 := HOW.out.belowGrown HB.out hg (Nat.le_refl _) HB.out.size
              have HOW := Lib.hid ho
              have HB := Lib.hid hb7
              clear ho hg hb7
              have HQ := Lib.hid (HQd.out.below HB.out)
              have HV := Lib.hid (HVd.out.belowAll HB.out)
              have HRi := Lib.hid (HRd.out.below HB.out)
              have HRX := Lib.hid (HRXd.out.below HB.out)
              refine hK _ _ (abCells HQ.out HV.out) ?_
              have hHeld := (show w8.cell? ⟨w.heap.size + 1 + 1, 0, none⟩ = some (.string p.id) ∧ w8.cell? ⟨w.heap.size + 1 + 1, 1, none⟩ = some (.int .i64 p.prio) ∧ w8.cell? ⟨w.heap.size + 1 + 1, 2, none⟩ = some (.bool p.crit) ∧ w8.cell? ⟨w.heap.size + 1 + 1, 3, none⟩ = some (.int .i64 p.q0) ∧ w8.cell? ⟨w.heap.size + 1 + 1, 4, none⟩ = some (.int .i64 p.q1) ∧ w8.cell? ⟨w.heap.size + 1 + 1, 5, none⟩ = some (.int .i64 p.q2) ∧ w8.cell? ⟨w.heap.size + 1 + 1, 6, none⟩ = some (.int .i64 p.l0) ∧ w8.cell? ⟨w.heap.size + 1 + 1, 7, none⟩ = some (.int .i64 p.l1) ∧ w8.cell? ⟨w.heap.size + 1 + 1, 8, none⟩ = some (.int .i64 p.l2) ∧ w8.cell? ⟨w.heap.size + 1 + 1, 9, none⟩ = some (.string p.image) ∧ w8.cell? ⟨w.heap.size + 1 + 1, 10, none⟩ = some (.int .i64 p.size) ∧ w8.cell? ⟨w5.heap.size, 2, none⟩ = some (.slice Ax O.length cx) from abCells HQ.out HV.out)
              clear hK K
              simp only [Act.put, List.setIfInBounds_toArray, List.set_cons_zero, List.set_cons_succ]
              refine held_take 8 11 (.slice A8 ((leftD O (podsD l)).length + [p].length) c8) rfl rfl (by kernel_rfl) (by kernel_rfl) (by kernel_rfl) (fun _ _ _ h => h) (by rfl) (by intro w' hSw; (try dsimp only at hSw); go_simp; (try (with_reducible rfl))) (by assumption) ?_
              simp only [Act.put, List.setIfInBounds_toArray, List.set_cons_zero, List.set_cons_succ]
              refine wpAnyH_done (by kernel_rfl) ?_ _
              clear hHeld
              go_wp2_with fail
              go_meet
              exact ⟨A8, c8, by simp, by have h := HOW.out.mono HBr.out.size; simpa [List.length_append] using h, below_rV HBr.out HB.out⟩
          · go_simp
            have HRW := Lib.hid (Rds.made (wd) encP [p] 29 #[.string p.id, .int .i64 p.prio, .bool p.crit, .int .i64 p.q0, .int .i64 p.q1, .int .i64 p.q2, .int .i64 p.l0, .int .i64 p.l1, .int .i64 p.l2, .string p.image, .int .i64 p.size] (0, 0) rfl)
            have HB := Lib.hid (HB.out.alloc HB.out.size (.cells #[.string p.id, .int .i64 p.prio, .bool p.crit, .int .i64 p.q0, .int .i64 p.q1, .int .i64 p.q2, .int .i64 p.l0, .int .i64 p.l1, .int .i64 p.l2, .string p.image, .int .i64 p.size] 29))
            have HQ := Lib.hid (HQd.out.below HB.out)
            have HV := Lib.hid (HVd.out.belowAll HB.out)
            have HRi := Lib.hid (HRd.out.below HB.out)
            have HRX := Lib.hid (HRXd.out.below HB.out)
            refine hK _ _ (abCells HQ.out HV.out) ?_
            have hHeld := (show ((wd).alloc (.cells #[.string p.id, .int .i64 p.prio, .bool p.crit, .int .i64 p.q0, .int .i64 p.q1, .int .i64 p.q2, .int .i64 p.l0, .int .i64 p.l1, .int .i64 p.l2, .string p.image, .int .i64 p.size] 29)).cell? ⟨w.heap.size + 1 + 1, 0, none⟩ = some (.string p.id) ∧ ((wd).alloc (.cells #[.string p.id, .int .i64 p.prio, .bool p.crit, .int .i64 p.q0, .int .i64 p.q1, .int .i64 p.q2, .int .i64 p.l0, .int .i64 p.l1, .int .i64 p.l2, .string p.image, .int .i64 p.size] 29)).cell? ⟨w.heap.size + 1 + 1, 1, none⟩ = some (.int .i64 p.prio) ∧ ((wd).alloc (.cells #[.string p.id, .int .i64 p.prio, .bool p.crit, .int .i64 p.q0, .int .i64 p.q1, .int .i64 p.q2, .int .i64 p.l0, .int .i64 p.l1, .int .i64 p.l2, .string p.image, .int .i64 p.size] 29)).cell? ⟨w.heap.size + 1 + 1, 2, none⟩ = some (.bool p.crit) ∧ ((wd).alloc (.cells #[.string p.id, .int .i64 p.prio, .bool p.crit, .int .i64 p.q0, .int .i64 p.q1, .int .i64 p.q2, .int .i64 p.l0, .int .i64 p.l1, .int .i64 p.l2, .string p.image, .int .i64 p.size] 29)).cell? ⟨w.heap.size + 1 + 1, 3, none⟩ = some (.int .i64 p.q0) ∧ ((wd).alloc (.cells #[.string p.id, .int .i64 p.prio, .bool p.crit, .int .i64 p.q0, .int .i64 p.q1, .int .i64 p.q2, .int .i64 p.l0, .int .i64 p.l1, .int .i64 p.l2, .string p.image, .int .i64 p.size] 29)).cell? ⟨w.heap.size + 1 + 1, 4, none⟩ = some (.int .i64 p.q1) ∧ ((wd).alloc (.cells #[.string p.id, .int .i64 p.prio, .bool p.crit, .int .i64 p.q0, .int .i64 p.q1, .int .i64 p.q2, .int .i64 p.l0, .int .i64 p.l1, .int .i64 p.l2, .string p.image, .int .i64 p.size] 29)).cell? ⟨w.heap.size + 1 + 1, 5, none⟩ = some (.int .i64 p.q2) ∧ ((wd).alloc (.cells #[.string p.id, .int .i64 p.prio, .bool p.crit, .int .i64 p.q0, .int .i64 p.q1, .int .i64 p.q2, .int .i64 p.l0, .int .i64 p.l1, .int .i64 p.l2, .string p.image, .int .i64 p.size] 29)).cell? ⟨w.heap.size + 1 + 1, 6, none⟩ = some (.int .i64 p.l0) ∧ ((wd).alloc (.cells #[.string p.id, .int .i64 p.prio, .bool p.crit, .int .i64 p.q0, .int .i64 p.q1, .int .i64 p.q2, .int .i64 p.l0, .int .i64 p.l1, .int .i64 p.l2, .string p.image, .int .i64 p.size] 29)).cell? ⟨w.heap.size + 1 + 1, 7, none⟩ = some (.int .i64 p.l1) ∧ ((wd).alloc (.cells #[.string p.id, .int .i64 p.prio, .bool p.crit, .int .i64 p.q0, .int .i64 p.q1, .int .i64 p.q2, .int .i64 p.l0, .int .i64 p.l1, .int .i64 p.l2, .string p.image, .int .i64 p.size] 29)).cell? ⟨w.heap.size + 1 + 1, 8, none⟩ = some (.int .i64 p.l2) ∧ ((wd).alloc (.cells #[.string p.id, .int .i64 p.prio, .bool p.crit, .int .i64 p.q0, .int .i64 p.q1, .int .i64 p.q2, .int .i64 p.l0, .int .i64 p.l1, .int .i64 p.l2, .string p.image, .int .i64 p.size] 29)).cell? ⟨w.heap.size + 1 + 1, 9, none⟩ = some (.string p.image) ∧ ((wd).alloc (.cells #[.string p.id, .int .i64 p.prio, .bool p.crit, .int .i64 p.q0, .int .i64 p.q1, .int .i64 p.q2, .int .i64 p.l0, .int .i64 p.l1, .int .i64 p.l2, .string p.image, .int .i64 p.size] 29)).cell? ⟨w.heap.size + 1 + 1, 10, none⟩ = some (.int .i64 p.size) ∧ ((wd).alloc (.cells #[.string p.id, .int .i64 p.prio, .bool p.crit, .int .i64 p.q0, .int .i64 p.q1, .int .i64 p.q2, .int .i64 p.l0, .int .i64 p.l1, .int .i64 p.l2, .string p.image, .int .i64 p.size] 29)).cell? ⟨w5.heap.size, 2, none⟩ = some (.slice Ax O.length cx) from abCells HQ.out HV.out)
            clear hK K
            simp only [Act.put, List.setIfInBounds_toArray, List.set_cons_zero, List.set_cons_succ]
            refine held_call 1 55 rfl rfl (by kernel_rfl) (by rfl) (fun K hK => ?_)
            go_simp
            go_at_call 14; with_reducible refine (pods_any l Al cl _ HRi.out (by omega)).mono ?_; rintro e w6 ⟨A6, c6, rfl, ho, hb⟩
            have HRW := Lib.hid (HRW.out.below hb)
            have HRP := Lib.hid ho.toRds
            have HB := Lib.hid (below_rV HB.out hb)
            clear ho hb
            have HQ := Lib.hid (HQd.out.below HB.out)
            have HV := Lib.hid (HVd.out.belowAll HB.out)
            have HRi := Lib.hid (HRd.out.below HB.out)
            have HRX := Lib.hid (HRXd.out.below HB.out)
            refine hK _ _ (abCells HQ.out HV.out) ?_
            have hHeld := (show w6.cell? ⟨w.heap.size + 1 + 1, 0, none⟩ = some (.string p.id) ∧ w6.cell? ⟨w.heap.size + 1 + 1, 1, none⟩ = some (.int .i64 p.prio) ∧ w6.cell? ⟨w.heap.size + 1 + 1, 2, none⟩ = some (.bool p.crit) ∧ w6.cell? ⟨w.heap.size + 1 + 1, 3, none⟩ = some (.int .i64 p.q0) ∧ w6.cell? ⟨w.heap.size + 1 + 1, 4, none⟩ = some (.int .i64 p.q1) ∧ w6.cell? ⟨w.heap.size + 1 + 1, 5, none⟩ = some (.int .i64 p.q2) ∧ w6.cell? ⟨w.heap.size + 1 + 1, 6, none⟩ = some (.int .i64 p.l0) ∧ w6.cell? ⟨w.heap.size + 1 + 1, 7, none⟩ = some (.int .i64 p.l1) ∧ w6.cell? ⟨w.heap.size + 1 + 1, 8, none⟩ = some (.int .i64 p.l2) ∧ w6.cell? ⟨w.heap.size + 1 + 1, 9, none⟩ = some (.string p.image) ∧ w6.cell? ⟨w.heap.size + 1 + 1, 10, none⟩ = some (.int .i64 p.size) ∧ w6.cell? ⟨w5.heap.size, 2, none⟩ = some (.slice Ax O.length cx) from abCells HQ.out HV.out)
            clear hK K
            simp only [Act.put, List.setIfInBounds_toArray, List.set_cons_zero, List.set_cons_succ]
            refine held_call 4 58 rfl rfl (by kernel_rfl) (by rfl) (fun K hK => ?_)
            go_simp
            go_at_call 13; with_reducible refine (without_any (podsD l) O A6 Ax c6 cx _ HRP.out HRX.out (by have := HPL.out; omega) (by have := HPL.out; omega)).mono ?_; rintro e w7 ⟨A7, c7, rfl, ho, hb⟩
            have HBS5 := Lib.hid HB.out.size
            have HOW := Lib.hid (ho.mono HBS5.out)
            have HRW := Lib.hid (HRW.out.below hb)
            have HB := Lib.hid (below_rV HB.out hb)
            clear ho hb
            have HQ := Lib.hid (HQd.out.below HB.out)
            have HV := Lib.hid (HVd.out.belowAll HB.out)
            have HRi := Lib.hid (HRd.out.below HB.out)
            have HRX := Lib.hid (HRXd.out.below HB.out)
            refine hK _ _ (abCells HQ.out HV.out) ?_
            have hHeld := (show w7.cell? ⟨w.heap.size + 1 + 1, 0, none⟩ = some (.string p.id) ∧ w7.cell? ⟨w.heap.size + 1 + 1, 1, none⟩ = some (.int .i64 p.prio) ∧ w7.cell? ⟨w.heap.size + 1 + 1, 2, none⟩ = some (.bool p.crit) ∧ w7.cell? ⟨w.heap.size + 1 + 1, 3, none⟩ = some (.int .i64 p.q0) ∧ w7.cell? ⟨w.heap.size + 1 + 1, 4, none⟩ = some (.int .i64 p.q1) ∧ w7.cell? ⟨w.heap.size + 1 + 1, 5, none⟩ = some (.int .i64 p.q2) ∧ w7.cell? ⟨w.heap.size + 1 + 1, 6, none⟩ = some (.int .i64 p.l0) ∧ w7.cell? ⟨w.heap.size + 1 + 1, 7, none⟩ = some (.int .i64 p.l1) ∧ w7.cell? ⟨w.heap.size + 1 + 1, 8, none⟩ = some (.int .i64 p.l2) ∧ w7.cell? ⟨w.heap.size + 1 + 1, 9, none⟩ = some (.string p.image) ∧ w7.cell? ⟨w.heap.size + 1 + 1, 10, none⟩ = some (.int .i64 p.size) ∧ w7.cell? ⟨w5.heap.size, 2, none⟩ = some (.slice Ax O.length cx) from abCells HQ.out HV.out)
            clear hK K
            simp only [Act.put, List.setIfInBounds_toArray, List.set_cons_zero, List.set_cons_succ]
            refine held_call 7 61 rfl rfl (by kernel_rfl) (by rfl) (fun K hK => ?_)
            refine wp_app (w7) elemP encP (.tmp 58) (.tmp 60) rfl wd.heap.size _ (leftD O (podsD l)) (by simp [Act.eval]) HOW.out _ [p] 1 (by simp [Act.eval]) HRW.out (by have := HPL.out; simp; omega) (by have := HPL.out; simp; omega) HB.out.size ?_
            intro A8 c8 w8 ho hg _
            have hb7 := HOW.out.belowGrown HB.out hg (Nat.le_refl _) HB.out.size
            have HOW := Lib.hid ho
            have HB := Lib.hid hb7
            clear ho hg hb7
            have HQ := Lib.hid (HQd.out.below HB.out)
            have HV := Lib.hid (HVd.out.belowAll HB.out)
            have HRi := Lib.hid (HRd.out.below HB.out)
            have HRX := Lib.hid (HRXd.out.below HB.out)
            refine hK _ _ (abCells HQ.out HV.out) ?_
            have hHeld := (show w8.cell? ⟨w.heap.size + 1 + 1, 0, none⟩ = some (.string p.id) ∧ w8.cell? ⟨w.heap.size + 1 + 1, 1, none⟩ = some (.int .i64 p.prio) ∧ w8.cell? ⟨w.heap.size + 1 + 1, 2, none⟩ = some (.bool p.crit) ∧ w8.cell? ⟨w.heap.size + 1 + 1, 3, none⟩ = some (.int .i64 p.q0) ∧ w8.cell? ⟨w.heap.size + 1 + 1, 4, none⟩ = some (.int .i64 p.q1) ∧ w8.cell? ⟨w.heap.size + 1 + 1, 5, none⟩ = some (.int .i64 p.q2) ∧ w8.cell? ⟨w.heap.size + 1 + 1, 6, none⟩ = some (.int .i64 p.l0) ∧ w8.cell? ⟨w.heap.size + 1 + 1, 7, none⟩ = some (.int .i64 p.l1) ∧ w8.cell? ⟨w.heap.size + 1 + 1, 8, none⟩ = some (.int .i64 p.l2) ∧ w8.cell? ⟨w.heap.size + 1 + 1, 9, none⟩ = some (.string p.image) ∧ w8.cell? ⟨w.heap.size + 1 + 1, 10, none⟩ = some (.int .i64 p.size) ∧ w8.cell? ⟨w5.heap.size, 2, none⟩ = some (.slice Ax O.length cx) from abCells HQ.out HV.out)
            clear hK K
            simp only [Act.put, List.setIfInBounds_toArray, List.set_cons_zero, List.set_cons_succ]
            refine held_take 8 11 (.slice A8 ((leftD O (podsD l)).length + [p].length) c8) rfl rfl (by kernel_rfl) (by kernel_rfl) (by kernel_rfl) (fun _ _ _ h => h) (by rfl) (by intro w' hSw; (try dsimp only at hSw); go_simp; (try (with_reducible rfl))) (by assumption) ?_
            simp only [Act.put, List.setIfInBounds_toArray, List.set_cons_zero, List.set_cons_succ]
            refine wpAnyH_done (by kernel_rfl) ?_ _
            clear hHeld
            go_wp2_with fail
            go_meet
            exact ⟨A8, c8, by simp, by have h := HOW.out.mono HBr.out.size; simpa [List.length_append] using h, below_rV HBr.out HB.out⟩
        case rest =>
          obtain ⟨As, cs, rfl, ho8, hb8⟩ := hcut
          rename World => W6
          have HQ := Lib.hid (HQ.out.below hb8)
          have HV := Lib.hid (HV.out.belowAll hb8)
          have HS := Lib.hid ho8.toRds
          clear ho8 hb8 HBr
          have HSL : Hid ((leftD O (podsD l) ++ [p]).length ≤ 64) := by show _ ≤ _; have := HPL.out; rw [List.length_append]; simp; omega
          have HFA := Lib.hid HMIN.out.a
          have HOL := Lib.hid HPL.out.2.1
          clear HMIN HPL HRX HRi
          generalize leftD O (podsD l) ++ [p] = ST at *
          have ccf := HQ.out.cf.cell
          go_wp2_with fail
          refine (withinV HFA.out rfl HS.out HSL.out HWS.out HROOM.out.1 HROOM.out.2.1 HROOM.out.2.2).mono ?_; rintro e w9 ⟨rfl, hb⟩
          have HQ := Lib.hid (HQ.out.below hb)
          have HV := Lib.hid (HV.out.belowAll hb)
          clear hb ccf
          have cv := HV.out.cell
          go_wp2_with fail
          go_ret
          exact ⟨rfl, HQ.out.bel⟩
end Go.Proofs.YtlhmhcidknadmaaDoor
