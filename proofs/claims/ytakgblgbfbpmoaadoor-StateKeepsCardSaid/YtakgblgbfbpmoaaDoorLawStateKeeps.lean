/- bilgelaw24.StateKeeps: what is handed in stays; what is answered is new memory. -/
import Derived.Test.YtakgblgbfbpmoaaDoorMV
import Derived.Test.YtakgblgbfbpmoaaDoorStKept
namespace Go.Proofs.YtakgblgbfbpmoaaDoor
open Go.RowKit

section
variable {P : Program} {md : Region.Mode} {ops : Array Oper} {Q : Exit → Act → World → Prop} {S : World → Prop} {fuel : Nat} {listed : Array Bool} {a : Act} {w : World}
theorem held_store (i : Nat) {oi : Oper} (hi : ops[i]? = some oi) (hr : Region.ready md ops listed = [i]) (hw : Region.wanted oi (yielded ops a.tmps) = true) (ty : TypeId) (x y : Operand) (ho : oi.op = .store ty x y)
    (g : Nat) (t : TypeId) (cur cells : Array Value) (hx : a.eval x = .pointer (some ⟨g, 0, none⟩)) (hy : a.eval y = .agg cells)
    (hb : Blk w g t cur) (hs : cells.size = cur.size) (hn : (P.info? ty).map (·.size) = some cells.size) (h1 : cells.all (·.oneCell') = true)
    (h : ∀ w', Blk w' g t cells → w.grownBy w' (some g) → w'.heap.size = w.heap.size → S w' ∧ wpAnyH P md ops Q S fuel (listed.setIfInBounds i true) (a.put oi.dst undef) w') : wpAnyH P md ops Q S (fuel + 1) listed a w := by
  have hth : w.there g 0 cells.size := fun j hj => ⟨by rw [Nat.zero_add, hb.cell j, Array.getElem?_eq_getElem (by omega)]; rfl, by rw [Nat.zero_add]; exact hb.frozen j⟩
  obtain ⟨h2, h3, h4⟩ := setCells_blk g t cells.toList 0 w cur.toList (by simp; omega) (by simpa using hb)
  have e : (cur.toList.take 0 ++ cells.toList ++ cur.toList.drop (0 + cells.toList.length)).toArray = cells := by
    rw [List.drop_of_length_le (by simp; omega)]; simp
  rw [e] at h2
  obtain ⟨s1, s2⟩ := h _ h2 h3 h4
  exact held_op i hi hr hw fun K hK => wp_store_mid ty x y ho g 0 cells hx hy hth hn h1 (hK undef _ s1 s2)
end
theorem szStt : (Tryd.prog.info? 25).map (·.size) = some 5 := by kernel_rfl
set_option maxRecDepth 100000 in
set_option maxHeartbeats 16000000 in
theorem stateKeeps_any (rd : Int) (l : List En) (e : En) (A : Option Addr) (c : Nat) (o0 o1 o2 : Bool) (w : World) (hr : Rds w encN A l) (hw : ∀ x ∈ l, x.pod.Wf ∧ I64 x.phase) (hm : l.length ≤ 9223372036854775807) (he : e.pod.Wf) (hep : I64 e.phase) :
    Calls Tryd.prog 10 #[.agg #[.int .i64 rd, .slice A l.length c, .bool o0, .bool o1, .bool o2], .agg #[.string e.pod.id, .int .i64 e.pod.prio, .bool e.pod.crit, .int .i64 e.pod.q0, .int .i64 e.pod.q1, .int .i64 e.pod.q2, .int .i64 e.pod.l0, .int .i64 e.pod.l1, .int .i64 e.pod.l2, .string e.pod.image, .int .i64 e.pod.size, .int .i64 e.phase]] w fun e w' => e = .returned (.bool true) ∧ Below w.heap.size w w' := by
  have mixed : Tryd.prog.follows Departure.mixedOrders = true := by kernel_rfl
  have HQ := Lib.hid (KpQ.new rd A l.length c o0 o1 o2 e w)
  have HR := Lib.hid hr
  have HWE := Lib.hid hw
  have HW := Lib.hid (show ∀ x ∈ l, x.pod.Wf from fun x hx => (hw x hx).1)
  have HE := Lib.hid (And.intro he hep)
  clear he hep
  clear hr hw
  go_enter Tryd.func10, Tryd.ntmps10
  go_wp2_with fail
  refine (awake24_any _).mono ?_; rintro e w1 ⟨rfl, hb⟩
  have HQ := Lib.hid (HQ.out.below hb)
  clear hb
  have cs := HQ.out.sb.cell
  go_wp2_with fail
  obtain ⟨v1, hv1⟩ : ∃ v, fewS l = v := ⟨_, rfl⟩
  have HFW := Lib.hid hv1
  clear hv1
  refine (few24_any HFW.out rd A c o0 o1 o2 _ (HR.out.below HQ.out.bel) hm).mono ?_; rintro e w2 ⟨rfl, hb⟩
  have HQ := Lib.hid (HQ.out.below hb)
  clear hb cs
  cases v1
  · go_wp2_with fail
    refine (awake24_any _).mono ?_; rintro e w9 ⟨rfl, hb⟩
    have HQ := Lib.hid (HQ.out.below hb)
    clear hb
    go_wp2_with fail
    go_ret
    exact ⟨rfl, HQ.out.bel⟩
  have hl70 : l.length ≤ 70 := (fewS_small HFW.out).1
  have cs := HQ.out.sb.cell
  go_wp2_with fail
  by_cases hR : RightS rd l
  rotate_left
  · have HN := Lib.hid hR
    clear hR
    refine (refStRightV_any (v := false) (RightS.iffNo HN.out) A c o0 o1 o2 _ (HR.out.below HQ.out.bel) HW.out hm).mono ?_; rintro e w3 ⟨rfl, hb⟩
    have HQ := Lib.hid (HQ.out.below hb)
    clear hb cs
    go_wp2_with fail
    refine (awake24_any _).mono ?_; rintro e w9 ⟨rfl, hb⟩
    have HQ := Lib.hid (HQ.out.below hb)
    clear hb
    go_wp2_with fail
    go_ret
    exact ⟨rfl, HQ.out.bel⟩
  have HRS := Lib.hid hR
  clear hR
  refine (refStRightV_any (v := true) (RightS.iffYes HRS.out) A c o0 o1 o2 _ (HR.out.below HQ.out.bel) HW.out hm).mono ?_; rintro e w3 ⟨rfl, hb⟩
  have HQ := Lib.hid (HQ.out.below hb)
  have HSO := Lib.hid HRS.out.sorted
  clear hb cs
  have ce := HQ.out.eb.cell
  go_wp2_with fail
  obtain ⟨v2, hv2⟩ : ∃ v, e.pod.small = v := ⟨_, rfl⟩
  have HSM := Lib.hid hv2
  clear hv2
  refine (smallV_any HSM.out _).mono ?_; rintro x w4 ⟨rfl, hb⟩
  have HQ := Lib.hid (HQ.out.below hb)
  clear hb ce
  cases v2
  · go_wp2_with fail
    refine (awake24_any _).mono ?_; rintro e w9 ⟨rfl, hb⟩
    have HQ := Lib.hid (HQ.out.below hb)
    clear hb
    go_wp2_with fail
    go_ret
    exact ⟨rfl, HQ.out.bel⟩
  have ce := HQ.out.eb.cell
  go_wp2_with fail
  obtain ⟨v3, hv3⟩ : ∃ v, e.pod.right = v := ⟨_, rfl⟩
  have HER := Lib.hid hv3
  clear hv3
  refine (rightV_any HER.out _ HE.out.1).mono ?_; rintro x w5 ⟨rfl, hb⟩
  have HQ := Lib.hid (HQ.out.below hb)
  clear hb ce
  cases v3
  · go_wp2_with fail
    refine (awake24_any _).mono ?_; rintro e w9 ⟨rfl, hb⟩
    have HQ := Lib.hid (HQ.out.below hb)
    clear hb
    go_wp2_with fail
    go_ret
    exact ⟨rfl, HQ.out.bel⟩
  have ce := HQ.out.eb.cell
  by_cases hp1 : e.phase < 1
  · have d1 : decide (e.phase < 1) = true := decide_eq_true hp1
    clear hp1
    go_wp2_with fail
    refine (awake24_any _).mono ?_; rintro e w9 ⟨rfl, hb⟩
    have HQ := Lib.hid (HQ.out.below hb)
    clear hb
    go_wp2_with fail
    go_ret
    exact ⟨rfl, HQ.out.bel⟩
  have d1 : decide (e.phase < 1) = false := decide_eq_false hp1
  by_cases hp3 : 3 < e.phase
  · have d3 : decide (3 < e.phase) = true := decide_eq_true hp3
    clear hp1 hp3
    go_wp2_with fail
    refine (awake24_any _).mono ?_; rintro e w9 ⟨rfl, hb⟩
    have HQ := Lib.hid (HQ.out.below hb)
    clear hb
    go_wp2_with fail
    go_ret
    exact ⟨rfl, HQ.out.bel⟩
  have d3 : decide (3 < e.phase) = false := decide_eq_false hp3
  have HRE := Lib.hid (rightE_parts HER.out (by omega) (by omega))
  clear hp1 hp3
  have cs := HQ.out.sb.cell
  go_wp2_with fail
  clear cs ce
  have HSd := Lib.hid HQ.out.drew
  have HU0 := Lib.hid (HR.out.below HQ.out.bel).drew
  go_cut [5] (fun v W => ∃ (N : Nat) (At : Option Addr) (ct : Nat), v = .pointer (some ⟨N, 0, none⟩) ∧ Blk W N 25 #[.int .i64 rd, .slice At l.length ct, .bool o0, .bool o1, .bool o2] ∧ Own W w5.heap.size 46 encN (.slice At l.length ct) l ∧ Below w5.heap.size w5 W)
  case first =>
    have HB3d : Hid (Below w5.heap.size w5 w5.drew) := (Below.refl _ _).drew
    refine wp_region_held_drew (S := (fun w' => w'.cell? ⟨w.heap.size, 0, none⟩ = some (.int .i64 rd) ∧ w'.cell? ⟨w.heap.size, 1, none⟩ = some (.slice A l.length c) ∧ w'.cell? ⟨w.heap.size, 2, none⟩ = some (.bool o0) ∧ w'.cell? ⟨w.heap.size, 3, none⟩ = some (.bool o1) ∧ w'.cell? ⟨w.heap.size, 4, none⟩ = some (.bool o2))) (by kernel_rfl) (⟨(HSd.out).sb.cell 0, (HSd.out).sb.cell 1, (HSd.out).sb.cell 2, (HSd.out).sb.cell 3, (HSd.out).sb.cell 4⟩) (fun hHeld => ?_)
    generalize w5.drew = W3d at *
    have hB0 : Below W3d.heap.size W3d W3d := Below.refl _ _
    refine held_take 0 49 (.pointer (some ⟨w.heap.size, 0, none⟩)) rfl rfl (by kernel_rfl) (by kernel_rfl) (by kernel_rfl) (fun _ _ _ h => h) (by rfl) (by intro w' hSw; (try dsimp only at hSw); go_simp; (try (with_reducible rfl))) (by assumption) ?_
    simp only [Act.put, List.setIfInBounds_toArray, List.set_cons_zero, List.set_cons_succ]
    refine held_take 1 50 (.int .i64 rd) rfl rfl (by kernel_rfl) (by kernel_rfl) (by kernel_rfl) (fun _ _ _ h => h) (by rfl) (by intro w' hSw; (try dsimp only at hSw); go_simp; (try (with_reducible rfl))) (by assumption) ?_
    simp only [Act.put, List.setIfInBounds_toArray, List.set_cons_zero, List.set_cons_succ]
    refine held_take 2 51 (.pointer (some ⟨w.heap.size, 2, none⟩)) rfl rfl (by kernel_rfl) (by kernel_rfl) (by kernel_rfl) (fun _ _ _ h => h) (by rfl) (by intro w' hSw; (try dsimp only at hSw); go_simp; (try (with_reducible rfl))) (by assumption) ?_
    simp only [Act.put, List.setIfInBounds_toArray, List.set_cons_zero, List.set_cons_succ]
    refine held_take 3 52 (.agg #[.bool o0, .bool o1, .bool o2]) rfl rfl (by kernel_rfl) (by kernel_rfl) (by kernel_rfl) (fun _ _ _ h => h) (by rfl) (by intro w' hSw; (try dsimp only at hSw); go_simp; (try (with_reducible rfl))) (by assumption) ?_
    simp only [Act.put, List.setIfInBounds_toArray, List.set_cons_zero, List.set_cons_succ]
    refine held_take 5 54 (.pointer (some ⟨w.heap.size, 1, none⟩)) rfl rfl (by kernel_rfl) (by kernel_rfl) (by kernel_rfl) (fun _ _ _ h => h) (by rfl) (by intro w' hSw; (try dsimp only at hSw); go_simp; (try (with_reducible rfl))) (by assumption) ?_
    simp only [Act.put, List.setIfInBounds_toArray, List.set_cons_zero, List.set_cons_succ]
    refine held_take 6 55 (.slice A l.length c) rfl rfl (by kernel_rfl) (by kernel_rfl) (by kernel_rfl) (fun _ _ _ h => h) (by rfl) (by intro w' hSw; (try dsimp only at hSw); go_simp; (try (with_reducible rfl))) (by assumption) ?_
    simp only [Act.put, List.setIfInBounds_toArray, List.set_cons_zero, List.set_cons_succ]
    have HB0 := Lib.hid hB0
    clear hB0
    refine held_twoD 4 9 53 5 rfl rfl rfl rfl (by kernel_rfl) (by rfl) (by rfl) (fun K hK => ?_) (fun K hK => ?_)
    · go_simp
      refine hK _ _ (⟨(HSd.out.alloc (.cells #[] 46)).sb.cell 0, (HSd.out.alloc (.cells #[] 46)).sb.cell 1, (HSd.out.alloc (.cells #[] 46)).sb.cell 2, (HSd.out.alloc (.cells #[] 46)).sb.cell 3, (HSd.out.alloc (.cells #[] 46)).sb.cell 4⟩) ?_
      have hHeld := (show (W3d.alloc (.cells #[] 46)).cell? ⟨w.heap.size, 0, none⟩ = some (.int .i64 rd) ∧ (W3d.alloc (.cells #[] 46)).cell? ⟨w.heap.size, 1, none⟩ = some (.slice A l.length c) ∧ (W3d.alloc (.cells #[] 46)).cell? ⟨w.heap.size, 2, none⟩ = some (.bool o0) ∧ (W3d.alloc (.cells #[] 46)).cell? ⟨w.heap.size, 3, none⟩ = some (.bool o1) ∧ (W3d.alloc (.cells #[] 46)).cell? ⟨w.heap.size, 4, none⟩ = some (.bool o2) from ⟨(HSd.out.alloc (.cells #[] 46)).sb.cell 0, (HSd.out.alloc (.cells #[] 46)).sb.cell 1, (HSd.out.alloc (.cells #[] 46)).sb.cell 2, (HSd.out.alloc (.cells #[] 46)).sb.cell 3, (HSd.out.alloc (.cells #[] 46)).sb.cell 4⟩)
      clear hK K
      simp only [Act.put, List.setIfInBounds_toArray, List.set_cons_zero, List.set_cons_succ]
      have HS1 := Lib.hid (HSd.out.alloc (.cells #[] 46))
      have HB1 := Lib.hid (HB0.out.alloc HB0.out.size (.cells #[] 46))
      have HO1 := Lib.hid (Own.made W3d W3d.heap.size 46 encN [] #[] rfl HB0.out.size (by simp))
      have HU1 := Lib.hid (HU0.out.alloc (.cells #[] 46))
      refine held_twoD 7 9 56 5 rfl rfl rfl rfl (by kernel_rfl) (by rfl) (by rfl) (fun K hK => ?_) (fun K hK => ?_)
      · refine wp_app _ elemN encN (.tmp 53) (.tmp 55) rfl W3d.heap.size _ [] (by simp [Act.eval]) HO1.out A l c (by simp [Act.eval]) HU1.out (by simp; omega) (by simp; omega) HB1.out.size ?_
        intro At ct w4x ho hg _
        rw [List.length_nil, Nat.zero_add, List.nil_append] at ho
        rw [List.length_nil, Nat.zero_add]
        have hb4 := HO1.out.belowGrown HB1.out hg (Nat.le_refl _) HB1.out.size
        have HR2 := Lib.hid ho
        have HB2 := Lib.hid hb4
        have HS2 := Lib.hid (HSd.out.below hb4)
        clear ho hg hb4
        refine hK _ _ (⟨(HS2.out).sb.cell 0, (HS2.out).sb.cell 1, (HS2.out).sb.cell 2, (HS2.out).sb.cell 3, (HS2.out).sb.cell 4⟩) ?_
        have hHeld := (show w4x.cell? ⟨w.heap.size, 0, none⟩ = some (.int .i64 rd) ∧ w4x.cell? ⟨w.heap.size, 1, none⟩ = some (.slice A l.length c) ∧ w4x.cell? ⟨w.heap.size, 2, none⟩ = some (.bool o0) ∧ w4x.cell? ⟨w.heap.size, 3, none⟩ = some (.bool o1) ∧ w4x.cell? ⟨w.heap.size, 4, none⟩ = some (.bool o2) from ⟨(HS2.out).sb.cell 0, (HS2.out).sb.cell 1, (HS2.out).sb.cell 2, (HS2.out).sb.cell 3, (HS2.out).sb.cell 4⟩)
        clear hK K
        simp only [Act.put, List.setIfInBounds_toArray, List.set_cons_zero, List.set_cons_succ]
        refine held_take 8 57 (.agg #[.int .i64 rd, .slice At l.length ct, .bool o0, .bool o1, .bool o2]) rfl rfl (by kernel_rfl) (by kernel_rfl) (by kernel_rfl) (fun _ _ _ h => h) (by rfl) (by intro w' hSw; (try dsimp only at hSw); go_simp; (try (with_reducible rfl))) (by assumption) ?_
        simp only [Act.put, List.setIfInBounds_toArray, List.set_cons_zero, List.set_cons_succ]
        refine held_call 9 5 rfl rfl (by kernel_rfl) (by rfl) (fun K hK => ?_)
        go_simp
        refine hK _ _ (⟨(HS2.out.alloc (.cells #[.int .i64 0, .slice none 0 0, .bool false, .bool false, .bool false] 25)).sb.cell 0, (HS2.out.alloc (.cells #[.int .i64 0, .slice none 0 0, .bool false, .bool false, .bool false] 25)).sb.cell 1, (HS2.out.alloc (.cells #[.int .i64 0, .slice none 0 0, .bool false, .bool false, .bool false] 25)).sb.cell 2, (HS2.out.alloc (.cells #[.int .i64 0, .slice none 0 0, .bool false, .bool false, .bool false] 25)).sb.cell 3, (HS2.out.alloc (.cells #[.int .i64 0, .slice none 0 0, .bool false, .bool false, .bool false] 25)).sb.cell 4⟩) ?_
        have hHeld := (show (w4x.alloc (.cells #[.int .i64 0, .slice none 0 0, .bool false, .bool false, .bool false] 25)).cell? ⟨w.heap.size, 0, none⟩ = some (.int .i64 rd) ∧ (w4x.alloc (.cells #[.int .i64 0, .slice none 0 0, .bool false, .bool false, .bool false] 25)).cell? ⟨w.heap.size, 1, none⟩ = some (.slice A l.length c) ∧ (w4x.alloc (.cells #[.int .i64 0, .slice none 0 0, .bool false, .bool false, .bool false] 25)).cell? ⟨w.heap.size, 2, none⟩ = some (.bool o0) ∧ (w4x.alloc (.cells #[.int .i64 0, .slice none 0 0, .bool false, .bool false, .bool false] 25)).cell? ⟨w.heap.size, 3, none⟩ = some (.bool o1) ∧ (w4x.alloc (.cells #[.int .i64 0, .slice none 0 0, .bool false, .bool false, .bool false] 25)).cell? ⟨w.heap.size, 4, none⟩ = some (.bool o2) from ⟨(HS2.out.alloc (.cells #[.int .i64 0, .slice none 0 0, .bool false, .bool false, .bool false] 25)).sb.cell 0, (HS2.out.alloc (.cells #[.int .i64 0, .slice none 0 0, .bool false, .bool false, .bool false] 25)).sb.cell 1, (HS2.out.alloc (.cells #[.int .i64 0, .slice none 0 0, .bool false, .bool false, .bool false] 25)).sb.cell 2, (HS2.out.alloc (.cells #[.int .i64 0, .slice none 0 0, .bool false, .bool false, .bool false] 25)).sb.cell 3, (HS2.out.alloc (.cells #[.int .i64 0, .slice none 0 0, .bool false, .bool false, .bool false] 25)).sb.cell 4⟩)
        clear hK K
        simp only [Act.put, List.setIfInBounds_toArray, List.set_cons_zero, List.set_cons_succ]
        have HS3 := Lib.hid (HS2.out.alloc (.cells #[.int .i64 0, .slice none 0 0, .bool false, .bool false, .bool false] 25))
        have HB3 := Lib.hid (HB2.out.alloc HB2.out.size (.cells #[.int .i64 0, .slice none 0 0, .bool false, .bool false, .bool false] 25))
        have HN3 : Hid (Blk (w4x.alloc (.cells #[.int .i64 0, .slice none 0 0, .bool false, .bool false, .bool false] 25)) (w4x.heap.size) 25 #[.int .i64 0, .slice none 0 0, .bool false, .bool false, .bool false]) := by
          have h := Blk.new w4x 25 #[.int .i64 0, .slice none 0 0, .bool false, .bool false, .bool false]
          exact Lib.hid (by simpa using h)
        have HU3 := Lib.hid (HU1.out.alloc (.cells #[.int .i64 0, .slice none 0 0, .bool false, .bool false, .bool false] 25))
        have HR3 := Lib.hid (HR2.out.alloc (.cells #[.int .i64 0, .slice none 0 0, .bool false, .bool false, .bool false] 25))
        have NBB : Hid (W3d.heap.size ≤ w4x.heap.size) := Lib.hid HB2.out.size
        have NN : Hid (w.heap.size ≠ w4x.heap.size) := by
          have h1 := HSd.out.sb.lt
          have h2 := NBB.out
          show w.heap.size ≠ w4x.heap.size
          omega
        refine held_store 10 rfl (by kernel_rfl) (by rfl) 25 (.tmp 5) (.tmp 57) rfl (w4x.heap.size) 25 #[.int .i64 0, .slice none 0 0, .bool false, .bool false, .bool false] #[.int .i64 rd, .slice At l.length ct, .bool o0, .bool o1, .bool o2] rfl rfl HN3.out rfl szStt (by simp [Value.oneCell']) ?_
        intro w9 hN1 hg1 hs1
        have HSF := Lib.hid (HS3.out.sb.grown hg1 (by intro e; injection e with e; exact NN.out e))
        have HFI := Lib.hid (And.intro hN1 (And.intro (HB3.out.grown hg1 HB3.out.size (by intro k hk; cases hk; exact NBB.out)) (HR3.out.grown hg1 (.inr (HR3.out.ne_blk HN3.out (by decide)).symm))))
        clear hN1 hg1 hs1
        refine ⟨⟨HSF.out.cell 0, HSF.out.cell 1, HSF.out.cell 2, HSF.out.cell 3, HSF.out.cell 4⟩, ?_⟩
        simp only [Act.put, List.setIfInBounds_toArray]
        refine wpAnyH_done (by kernel_rfl) ?_ _
        clear hHeld
        go_wp2_with fail
        go_meet
        exact ⟨w4x.heap.size, At, ct, rfl, HFI.out.1, HFI.out.2.2.mono HB3d.out.size, below_rV HB3d.out HFI.out.2.1⟩
      · go_simp
        refine hK _ _ (⟨(HS1.out.alloc (.cells #[.int .i64 0, .slice none 0 0, .bool false, .bool false, .bool false] 25)).sb.cell 0, (HS1.out.alloc (.cells #[.int .i64 0, .slice none 0 0, .bool false, .bool false, .bool false] 25)).sb.cell 1, (HS1.out.alloc (.cells #[.int .i64 0, .slice none 0 0, .bool false, .bool false, .bool false] 25)).sb.cell 2, (HS1.out.alloc (.cells #[.int .i64 0, .slice none 0 0, .bool false, .bool false, .bool false] 25)).sb.cell 3, (HS1.out.alloc (.cells #[.int .i64 0, .slice none 0 0, .bool false, .bool false, .bool false] 25)).sb.cell 4⟩) ?_
        have hHeld := (show ((W3d.alloc (.cells #[] 46)).alloc (.cells #[.int .i64 0, .slice none 0 0, .bool false, .bool false, .bool false] 25)).cell? ⟨w.heap.size, 0, none⟩ = some (.int .i64 rd) ∧ ((W3d.alloc (.cells #[] 46)).alloc (.cells #[.int .i64 0, .slice none 0 0, .bool false, .bool false, .bool false] 25)).cell? ⟨w.heap.size, 1, none⟩ = some (.slice A l.length c) ∧ ((W3d.alloc (.cells #[] 46)).alloc (.cells #[.int .i64 0, .slice none 0 0, .bool false, .bool false, .bool false] 25)).cell? ⟨w.heap.size, 2, none⟩ = some (.bool o0) ∧ ((W3d.alloc (.cells #[] 46)).alloc (.cells #[.int .i64 0, .slice none 0 0, .bool false, .bool false, .bool false] 25)).cell? ⟨w.heap.size, 3, none⟩ = some (.bool o1) ∧ ((W3d.alloc (.cells #[] 46)).alloc (.cells #[.int .i64 0, .slice none 0 0, .bool false, .bool false, .bool false] 25)).cell? ⟨w.heap.size, 4, none⟩ = some (.bool o2) from ⟨(HS1.out.alloc (.cells #[.int .i64 0, .slice none 0 0, .bool false, .bool false, .bool false] 25)).sb.cell 0, (HS1.out.alloc (.cells #[.int .i64 0, .slice none 0 0, .bool false, .bool false, .bool false] 25)).sb.cell 1, (HS1.out.alloc (.cells #[.int .i64 0, .slice none 0 0, .bool false, .bool false, .bool false] 25)).sb.cell 2, (HS1.out.alloc (.cells #[.int .i64 0, .slice none 0 0, .bool false, .bool false, .bool false] 25)).sb.cell 3, (HS1.out.alloc (.cells #[.int .i64 0, .slice none 0 0, .bool false, .bool false, .bool false] 25)).sb.cell 4⟩)
        clear hK K
        simp only [Act.put, List.setIfInBounds_toArray, List.set_cons_zero, List.set_cons_succ]
        have HS2 := Lib.hid (HS1.out.alloc (.cells #[.int .i64 0, .slice none 0 0, .bool false, .bool false, .bool false] 25))
        have HB2 := Lib.hid (HB1.out.alloc HB1.out.size (.cells #[.int .i64 0, .slice none 0 0, .bool false, .bool false, .bool false] 25))
        have HN2 : Hid (Blk ((W3d.alloc (.cells #[] 46)).alloc (.cells #[.int .i64 0, .slice none 0 0, .bool false, .bool false, .bool false] 25)) (W3d.heap.size + 1) 25 #[.int .i64 0, .slice none 0 0, .bool false, .bool false, .bool false]) := by
          have h := Blk.new (W3d.alloc (.cells #[] 46)) 25 #[.int .i64 0, .slice none 0 0, .bool false, .bool false, .bool false]
          exact Lib.hid (by simpa using h)
        have HU2 := Lib.hid (HU1.out.alloc (.cells #[.int .i64 0, .slice none 0 0, .bool false, .bool false, .bool false] 25))
        have HO2 := Lib.hid (HO1.out.alloc (.cells #[.int .i64 0, .slice none 0 0, .bool false, .bool false, .bool false] 25))
        refine held_call 7 56 rfl rfl (by kernel_rfl) (by rfl) (fun K hK => ?_)
        refine wp_app _ elemN encN (.tmp 53) (.tmp 55) rfl W3d.heap.size _ [] (by simp [Act.eval]) HO2.out A l c (by simp [Act.eval]) HU2.out (by simp; omega) (by simp; omega) HB2.out.size ?_
        intro At ct w4x ho hg _
        rw [List.length_nil, Nat.zero_add, List.nil_append] at ho
        rw [List.length_nil, Nat.zero_add]
        have hb4 := HO2.out.belowGrown HB2.out hg (Nat.le_refl _) HB2.out.size
        have HR3 := Lib.hid ho
        have HB3 := Lib.hid hb4
        have HS3 := Lib.hid (HSd.out.below hb4)
        have HN3 := Lib.hid (HN2.out.grown hg (HO2.out.ne_blk HN2.out (by decide)))
        clear ho hg hb4
        refine hK _ _ (⟨(HS3.out).sb.cell 0, (HS3.out).sb.cell 1, (HS3.out).sb.cell 2, (HS3.out).sb.cell 3, (HS3.out).sb.cell 4⟩) ?_
        have hHeld := (show w4x.cell? ⟨w.heap.size, 0, none⟩ = some (.int .i64 rd) ∧ w4x.cell? ⟨w.heap.size, 1, none⟩ = some (.slice A l.length c) ∧ w4x.cell? ⟨w.heap.size, 2, none⟩ = some (.bool o0) ∧ w4x.cell? ⟨w.heap.size, 3, none⟩ = some (.bool o1) ∧ w4x.cell? ⟨w.heap.size, 4, none⟩ = some (.bool o2) from ⟨(HS3.out).sb.cell 0, (HS3.out).sb.cell 1, (HS3.out).sb.cell 2, (HS3.out).sb.cell 3, (HS3.out).sb.cell 4⟩)
        clear hK K
        simp only [Act.put, List.setIfInBounds_toArray, List.set_cons_zero, List.set_cons_succ]
        refine held_take 8 57 (.agg #[.int .i64 rd, .slice At l.length ct, .bool o0, .bool o1, .bool o2]) rfl rfl (by kernel_rfl) (by kernel_rfl) (by kernel_rfl) (fun _ _ _ h => h) (by rfl) (by intro w' hSw; (try dsimp only at hSw); go_simp; (try (with_reducible rfl))) (by assumption) ?_
        simp only [Act.put, List.setIfInBounds_toArray, List.set_cons_zero, List.set_cons_succ]
        have NBB : Hid (W3d.heap.size ≤ W3d.heap.size + 1) := Lib.hid (by have := HB1.out.size; simp at this; omega : W3d.heap.size ≤ W3d.heap.size + 1)
        have NN : Hid (w.heap.size ≠ W3d.heap.size + 1) := by
          have h1 := HSd.out.sb.lt
          have h2 := NBB.out
          show w.heap.size ≠ W3d.heap.size + 1
          omega
        refine held_store 10 rfl (by kernel_rfl) (by rfl) 25 (.tmp 5) (.tmp 57) rfl (W3d.heap.size + 1) 25 #[.int .i64 0, .slice none 0 0, .bool false, .bool false, .bool false] #[.int .i64 rd, .slice At l.length ct, .bool o0, .bool o1, .bool o2] rfl rfl HN3.out rfl szStt (by simp [Value.oneCell']) ?_
        intro w9 hN1 hg1 hs1
        have HSF := Lib.hid (HS3.out.sb.grown hg1 (by intro e; injection e with e; exact NN.out e))
        have HFI := Lib.hid (And.intro hN1 (And.intro (HB3.out.grown hg1 HB3.out.size (by intro k hk; cases hk; exact NBB.out)) (HR3.out.grown hg1 (.inr (HR3.out.ne_blk HN3.out (by decide)).symm))))
        clear hN1 hg1 hs1
        refine ⟨⟨HSF.out.cell 0, HSF.out.cell 1, HSF.out.cell 2, HSF.out.cell 3, HSF.out.cell 4⟩, ?_⟩
        simp only [Act.put, List.setIfInBounds_toArray]
        refine wpAnyH_done (by kernel_rfl) ?_ _
        clear hHeld
        go_wp2_with fail
        go_meet
        exact ⟨W3d.heap.size + 1, At, ct, rfl, HFI.out.1, HFI.out.2.2.mono HB3d.out.size, below_rV HB3d.out HFI.out.2.1⟩
    · go_simp
      refine hK _ _ (⟨(HSd.out.alloc (.cells #[.int .i64 0, .slice none 0 0, .bool false, .bool false, .bool false] 25)).sb.cell 0, (HSd.out.alloc (.cells #[.int .i64 0, .slice none 0 0, .bool false, .bool false, .bool false] 25)).sb.cell 1, (HSd.out.alloc (.cells #[.int .i64 0, .slice none 0 0, .bool false, .bool false, .bool false] 25)).sb.cell 2, (HSd.out.alloc (.cells #[.int .i64 0, .slice none 0 0, .bool false, .bool false, .bool false] 25)).sb.cell 3, (HSd.out.alloc (.cells #[.int .i64 0, .slice none 0 0, .bool false, .bool false, .bool false] 25)).sb.cell 4⟩) ?_
      have hHeld := (show (W3d.alloc (.cells #[.int .i64 0, .slice none 0 0, .bool false, .bool false, .bool false] 25)).cell? ⟨w.heap.size, 0, none⟩ = some (.int .i64 rd) ∧ (W3d.alloc (.cells #[.int .i64 0, .slice none 0 0, .bool false, .bool false, .bool false] 25)).cell? ⟨w.heap.size, 1, none⟩ = some (.slice A l.length c) ∧ (W3d.alloc (.cells #[.int .i64 0, .slice none 0 0, .bool false, .bool false, .bool false] 25)).cell? ⟨w.heap.size, 2, none⟩ = some (.bool o0) ∧ (W3d.alloc (.cells #[.int .i64 0, .slice none 0 0, .bool false, .bool false, .bool false] 25)).cell? ⟨w.heap.size, 3, none⟩ = some (.bool o1) ∧ (W3d.alloc (.cells #[.int .i64 0, .slice none 0 0, .bool false, .bool false, .bool false] 25)).cell? ⟨w.heap.size, 4, none⟩ = some (.bool o2) from ⟨(HSd.out.alloc (.cells #[.int .i64 0, .slice none 0 0, .bool false, .bool false, .bool false] 25)).sb.cell 0, (HSd.out.alloc (.cells #[.int .i64 0, .slice none 0 0, .bool false, .bool false, .bool false] 25)).sb.cell 1, (HSd.out.alloc (.cells #[.int .i64 0, .slice none 0 0, .bool false, .bool false, .bool false] 25)).sb.cell 2, (HSd.out.alloc (.cells #[.int .i64 0, .slice none 0 0, .bool false, .bool false, .bool false] 25)).sb.cell 3, (HSd.out.alloc (.cells #[.int .i64 0, .slice none 0 0, .bool false, .bool false, .bool false] 25)).sb.cell 4⟩)
      clear hK K
      simp only [Act.put, List.setIfInBounds_toArray, List.set_cons_zero, List.set_cons_succ]
      have HS1 := Lib.hid (HSd.out.alloc (.cells #[.int .i64 0, .slice none 0 0, .bool false, .bool false, .bool false] 25))
      have HB1 := Lib.hid (HB0.out.alloc HB0.out.size (.cells #[.int .i64 0, .slice none 0 0, .bool false, .bool false, .bool false] 25))
      have HN1 : Hid (Blk (W3d.alloc (.cells #[.int .i64 0, .slice none 0 0, .bool false, .bool false, .bool false] 25)) (W3d.heap.size) 25 #[.int .i64 0, .slice none 0 0, .bool false, .bool false, .bool false]) := by
        have h := Blk.new W3d 25 #[.int .i64 0, .slice none 0 0, .bool false, .bool false, .bool false]
        exact Lib.hid (by simpa using h)
      have HU1 := Lib.hid (HU0.out.alloc (.cells #[.int .i64 0, .slice none 0 0, .bool false, .bool false, .bool false] 25))
      refine held_call 4 53 rfl rfl (by kernel_rfl) (by rfl) (fun K hK => ?_)
      go_simp
      refine hK _ _ (⟨(HS1.out.alloc (.cells #[] 46)).sb.cell 0, (HS1.out.alloc (.cells #[] 46)).sb.cell 1, (HS1.out.alloc (.cells #[] 46)).sb.cell 2, (HS1.out.alloc (.cells #[] 46)).sb.cell 3, (HS1.out.alloc (.cells #[] 46)).sb.cell 4⟩) ?_
      have hHeld := (show ((W3d.alloc (.cells #[.int .i64 0, .slice none 0 0, .bool false, .bool false, .bool false] 25)).alloc (.cells #[] 46)).cell? ⟨w.heap.size, 0, none⟩ = some (.int .i64 rd) ∧ ((W3d.alloc (.cells #[.int .i64 0, .slice none 0 0, .bool false, .bool false, .bool false] 25)).alloc (.cells #[] 46)).cell? ⟨w.heap.size, 1, none⟩ = some (.slice A l.length c) ∧ ((W3d.alloc (.cells #[.int .i64 0, .slice none 0 0, .bool false, .bool false, .bool false] 25)).alloc (.cells #[] 46)).cell? ⟨w.heap.size, 2, none⟩ = some (.bool o0) ∧ ((W3d.alloc (.cells #[.int .i64 0, .slice none 0 0, .bool false, .bool false, .bool false] 25)).alloc (.cells #[] 46)).cell? ⟨w.heap.size, 3, none⟩ = some (.bool o1) ∧ ((W3d.alloc (.cells #[.int .i64 0, .slice none 0 0, .bool false, .bool false, .bool false] 25)).alloc (.cells #[] 46)).cell? ⟨w.heap.size, 4, none⟩ = some (.bool o2) from ⟨(HS1.out.alloc (.cells #[] 46)).sb.cell 0, (HS1.out.alloc (.cells #[] 46)).sb.cell 1, (HS1.out.alloc (.cells #[] 46)).sb.cell 2, (HS1.out.alloc (.cells #[] 46)).sb.cell 3, (HS1.out.alloc (.cells #[] 46)).sb.cell 4⟩)
      clear hK K
      simp only [Act.put, List.setIfInBounds_toArray, List.set_cons_zero, List.set_cons_succ]
      have HS2 := Lib.hid (HS1.out.alloc (.cells #[] 46))
      have HB2 := Lib.hid (HB1.out.alloc HB1.out.size (.cells #[] 46))
      have HO2 := Lib.hid (Own.made (W3d.alloc (.cells #[.int .i64 0, .slice none 0 0, .bool false, .bool false, .bool false] 25)) W3d.heap.size 46 encN [] #[] rfl HB1.out.size (by simp))
      have HU2 := Lib.hid (HU1.out.alloc (.cells #[] 46))
      have HN2 := Lib.hid (HN1.out.alloc (.cells #[] 46))
      refine held_call 7 56 rfl rfl (by kernel_rfl) (by rfl) (fun K hK => ?_)
      refine wp_app _ elemN encN (.tmp 53) (.tmp 55) rfl W3d.heap.size _ [] (by simp [Act.eval]) HO2.out A l c (by simp [Act.eval]) HU2.out (by simp; omega) (by simp; omega) HB2.out.size ?_
      intro At ct w4x ho hg _
      rw [List.length_nil, Nat.zero_add, List.nil_append] at ho
      rw [List.length_nil, Nat.zero_add]
      have hb4 := HO2.out.belowGrown HB2.out hg (Nat.le_refl _) HB2.out.size
      have HR3 := Lib.hid ho
      have HB3 := Lib.hid hb4
      have HS3 := Lib.hid (HSd.out.below hb4)
      have HN3 := Lib.hid (HN2.out.grown hg (HO2.out.ne_blk HN2.out (by decide)))
      clear ho hg hb4
      refine hK _ _ (⟨(HS3.out).sb.cell 0, (HS3.out).sb.cell 1, (HS3.out).sb.cell 2, (HS3.out).sb.cell 3, (HS3.out).sb.cell 4⟩) ?_
      have hHeld := (show w4x.cell? ⟨w.heap.size, 0, none⟩ = some (.int .i64 rd) ∧ w4x.cell? ⟨w.heap.size, 1, none⟩ = some (.slice A l.length c) ∧ w4x.cell? ⟨w.heap.size, 2, none⟩ = some (.bool o0) ∧ w4x.cell? ⟨w.heap.size, 3, none⟩ = some (.bool o1) ∧ w4x.cell? ⟨w.heap.size, 4, none⟩ = some (.bool o2) from ⟨(HS3.out).sb.cell 0, (HS3.out).sb.cell 1, (HS3.out).sb.cell 2, (HS3.out).sb.cell 3, (HS3.out).sb.cell 4⟩)
      clear hK K
      simp only [Act.put, List.setIfInBounds_toArray, List.set_cons_zero, List.set_cons_succ]
      refine held_take 8 57 (.agg #[.int .i64 rd, .slice At l.length ct, .bool o0, .bool o1, .bool o2]) rfl rfl (by kernel_rfl) (by kernel_rfl) (by kernel_rfl) (fun _ _ _ h => h) (by rfl) (by intro w' hSw; (try dsimp only at hSw); go_simp; (try (with_reducible rfl))) (by assumption) ?_
      simp only [Act.put, List.setIfInBounds_toArray, List.set_cons_zero, List.set_cons_succ]
      have NBB : Hid (W3d.heap.size ≤ W3d.heap.size) := Lib.hid HB0.out.size
      have NN : Hid (w.heap.size ≠ W3d.heap.size) := by
        have h1 := HSd.out.sb.lt
        have h2 := NBB.out
        show w.heap.size ≠ W3d.heap.size
        omega
      refine held_store 10 rfl (by kernel_rfl) (by rfl) 25 (.tmp 5) (.tmp 57) rfl (W3d.heap.size) 25 #[.int .i64 0, .slice none 0 0, .bool false, .bool false, .bool false] #[.int .i64 rd, .slice At l.length ct, .bool o0, .bool o1, .bool o2] rfl rfl HN3.out rfl szStt (by simp [Value.oneCell']) ?_
      intro w9 hN1 hg1 hs1
      have HSF := Lib.hid (HS3.out.sb.grown hg1 (by intro e; injection e with e; exact NN.out e))
      have HFI := Lib.hid (And.intro hN1 (And.intro (HB3.out.grown hg1 HB3.out.size (by intro k hk; cases hk; exact NBB.out)) (HR3.out.grown hg1 (.inr (HR3.out.ne_blk HN3.out (by decide)).symm))))
      clear hN1 hg1 hs1
      refine ⟨⟨HSF.out.cell 0, HSF.out.cell 1, HSF.out.cell 2, HSF.out.cell 3, HSF.out.cell 4⟩, ?_⟩
      simp only [Act.put, List.setIfInBounds_toArray]
      refine wpAnyH_done (by kernel_rfl) ?_ _
      clear hHeld
      go_wp2_with fail
      go_meet
      exact ⟨W3d.heap.size, At, ct, rfl, HFI.out.1, HFI.out.2.2.mono HB3d.out.size, below_rV HB3d.out HFI.out.2.1⟩
  case rest =>
    obtain ⟨N, At, ct, rfl, hbn, hoz, hbc⟩ := hcut
    clear HSd HU0
    have HZ0 := Lib.hid HQ.out.eb.lt
    have HN := Lib.hid hbn
    have OZ := Lib.hid hoz
    have HS5 := Lib.hid (Nat.le_trans HQ.out.bel.size (Nat.le_refl _))
    have HS6 := Lib.hid hbc.size
    have HQ := Lib.hid (HQ.out.below hbc)
    clear hbn hoz hbc
    have cn := HN.out.cell
    have ce := HQ.out.eb.cell
    go_wp2_with fail
    refine (with_any rd l e At ct o0 o1 o2 _ OZ.out.toRds (by omega) HSO.out).mono ?_; rintro x w6 ⟨Aa, ca, rfl, ho, hb⟩
    have HGZ := Lib.hid (fun k hk => (OZ.out.block_lt k hk).2)
    have HLA := Lib.hid (withD_len HSO.out e)
    have HW24 := Lib.hid (fun A c w => with24V (rd := rd) (e := e) HSO.out A c o0 o1 o2 w)
    generalize withD l e = LA at *
    have OA := Lib.hid (ho.alloc (.cells #[.int .i64 rd, .slice Aa LA.length ca, .bool o0, .bool o1, .bool o2] 25))
    have HA := Lib.hid (Blk.new w6 25 #[.int .i64 rd, .slice Aa LA.length ca, .bool o0, .bool o1, .bool o2])
    have HZA := Lib.hid hb.size
    have HQ := Lib.hid (HQ.out.below hb)
    have HN := Lib.hid (HN.out.belowAll hb)
    have OZ := Lib.hid (OZ.out.below hb (Nat.le_refl _))
    have HQ := Lib.hid (HQ.out.alloc (.cells #[.int .i64 rd, .slice Aa LA.length ca, .bool o0, .bool o1, .bool o2] 25))
    have HN := Lib.hid (HN.out.alloc (.cells #[.int .i64 rd, .slice Aa LA.length ca, .bool o0, .bool o1, .bool o2] 25))
    have OZ := Lib.hid (OZ.out.alloc (.cells #[.int .i64 rd, .slice Aa LA.length ca, .bool o0, .bool o1, .bool o2] 25))
    clear ho hb cn ce
    have cn := HN.out.cell
    have ce := HQ.out.eb.cell
    go_wp2_with fail
    refine (without_any rd l e.pod.id At ct o0 o1 o2 _ OZ.out.toRds (by omega) HSO.out).mono ?_; rintro x w7 ⟨Ab, cb, rfl, ho, hb⟩
    have HLB := Lib.hid (withoutS_len HSO.out e.pod.id)
    have HX24 := Lib.hid (fun A c w => without24V (rd := rd) (s := e.pod.id) HSO.out A c o0 o1 o2 w)
    generalize withoutS l e.pod.id = LB at *
    have OB := Lib.hid (ho.alloc (.cells #[.int .i64 rd, .slice Ab LB.length cb, .bool o0, .bool o1, .bool o2] 25))
    have HBx := Lib.hid (Blk.new w7 25 #[.int .i64 rd, .slice Ab LB.length cb, .bool o0, .bool o1, .bool o2])
    have HZB := Lib.hid hb.size
    have HQ := Lib.hid (HQ.out.below hb)
    have HN := Lib.hid (HN.out.belowAll hb)
    have OZ := Lib.hid (OZ.out.below hb (Nat.le_refl _))
    have HA := Lib.hid (HA.out.belowAll hb)
    have OA := Lib.hid (OA.out.below hb (Nat.le_refl _))
    have HQ := Lib.hid (HQ.out.alloc (.cells #[.int .i64 rd, .slice Ab LB.length cb, .bool o0, .bool o1, .bool o2] 25))
    have HN := Lib.hid (HN.out.alloc (.cells #[.int .i64 rd, .slice Ab LB.length cb, .bool o0, .bool o1, .bool o2] 25))
    have OZ := Lib.hid (OZ.out.alloc (.cells #[.int .i64 rd, .slice Ab LB.length cb, .bool o0, .bool o1, .bool o2] 25))
    have HA := Lib.hid (HA.out.alloc (.cells #[.int .i64 rd, .slice Ab LB.length cb, .bool o0, .bool o1, .bool o2] 25))
    have OA := Lib.hid (OA.out.alloc (.cells #[.int .i64 rd, .slice Ab LB.length cb, .bool o0, .bool o1, .bool o2] 25))
    clear ho hb cn ce
    have cn := HN.out.cell
    go_wp2_with fail
    refine (put24_yes rd l HRS.out At ct o0 o1 o2 _ OZ.out.toRds HW.out).mono ?_; rintro x w8 ⟨Ax, cx, rfl, ho, hb⟩
    have hk1 : (putS rd o0 o1 o2 l).length ≤ cx := ho.cap.2.1
    have hk2 : cx ≤ 9223372036854775807 := ho.cap.2.2
    have HXS := Lib.hid HBx.out.lt
    have OX := Lib.hid ho
    have HZP := Lib.hid hb.size
    have HQ := Lib.hid (HQ.out.below hb)
    have HN := Lib.hid (HN.out.belowAll hb)
    have OZ := Lib.hid (OZ.out.below hb (Nat.le_refl _))
    have HA := Lib.hid (HA.out.belowAll hb)
    have OA := Lib.hid (OA.out.below hb (Nat.le_refl _))
    have HBx := Lib.hid (HBx.out.belowAll hb)
    have OB := Lib.hid (OB.out.below hb (Nat.le_refl _))
    clear ho hb cn
    have hz1 := (putS_len (a := o0) (b := o1) (c := o2) HRS.out).1
    have hz2 := (putS_len (a := o0) (b := o1) (c := o2) HRS.out).2
    have HGY := Lib.hid (got_put (a := o0) (b := o1) (c := o2) HRS.out HW.out)
    generalize putS rd o0 o1 o2 l = L at *
    have cn := HN.out.cell
    have cs := HQ.out.sb.cell
    go_wp2_with fail
    refine (same24_any rd l At A ct c o0 o1 o2 _ OZ.out.toRds (HR.out.below HQ.out.bel) (by omega)).mono ?_; rintro x w9 ⟨rfl, hb⟩
    have HZS := Lib.hid hb.size
    have HQ := Lib.hid (HQ.out.below hb)
    have HN := Lib.hid (HN.out.belowAll hb)
    have OZ := Lib.hid (OZ.out.below hb (Nat.le_refl _))
    have HA := Lib.hid (HA.out.belowAll hb)
    have OA := Lib.hid (OA.out.below hb (Nat.le_refl _))
    have HBx := Lib.hid (HBx.out.belowAll hb)
    have OB := Lib.hid (OB.out.below hb (Nat.le_refl _))
    have OX := Lib.hid (OX.out.below hb (Nat.le_refl _))
    clear hb cn cs
    go_wp2_with fail
    refine (getV HGY.out rfl Ax cx _ OX.out.toRds hk1 hk2 (by omega)).mono ?_; rintro x wa ⟨Ag, cg, rfl, ho, hb⟩
    have OT := Lib.hid (ho.alloc (.cells #[.int .i64 rd, .slice Ag l.length cg, .bool o0, .bool o1, .bool o2] 25))
    have HT := Lib.hid (Blk.new wa 25 #[.int .i64 rd, .slice Ag l.length cg, .bool o0, .bool o1, .bool o2])
    have HZT := Lib.hid hb.size
    have HSB := Lib.hid (And.intro HBx.out.lt HA.out.lt)
    have HQ := Lib.hid (HQ.out.below hb)
    have HN := Lib.hid (HN.out.belowAll hb)
    have OZ := Lib.hid (OZ.out.below hb (Nat.le_refl _))
    have HA := Lib.hid (HA.out.belowAll hb)
    have OA := Lib.hid (OA.out.below hb (Nat.le_refl _))
    have HBx := Lib.hid (HBx.out.belowAll hb)
    have OB := Lib.hid (OB.out.below hb (Nat.le_refl _))
    have OX := Lib.hid (OX.out.below hb (Nat.le_refl _))
    have HQ := Lib.hid (HQ.out.alloc (.cells #[.int .i64 rd, .slice Ag l.length cg, .bool o0, .bool o1, .bool o2] 25))
    have HN := Lib.hid (HN.out.alloc (.cells #[.int .i64 rd, .slice Ag l.length cg, .bool o0, .bool o1, .bool o2] 25))
    have OZ := Lib.hid (OZ.out.alloc (.cells #[.int .i64 rd, .slice Ag l.length cg, .bool o0, .bool o1, .bool o2] 25))
    have HA := Lib.hid (HA.out.alloc (.cells #[.int .i64 rd, .slice Ag l.length cg, .bool o0, .bool o1, .bool o2] 25))
    have OA := Lib.hid (OA.out.alloc (.cells #[.int .i64 rd, .slice Ag l.length cg, .bool o0, .bool o1, .bool o2] 25))
    have HBx := Lib.hid (HBx.out.alloc (.cells #[.int .i64 rd, .slice Ag l.length cg, .bool o0, .bool o1, .bool o2] 25))
    have OB := Lib.hid (OB.out.alloc (.cells #[.int .i64 rd, .slice Ag l.length cg, .bool o0, .bool o1, .bool o2] 25))
    have OX := Lib.hid (OX.out.alloc (.cells #[.int .i64 rd, .slice Ag l.length cg, .bool o0, .bool o1, .bool o2] 25))
    clear ho hb
    go_wp2_with fail
    obtain ⟨W1, hW1⟩ : ∃ W1, (wa.alloc (.cells #[.int .i64 rd, .slice Ag l.length cg, .bool o0, .bool o1, .bool o2] 25)) = W1 := ⟨_, rfl⟩
    rw [hW1] at HQ HN OZ HA OA HBx OB OX OT HT ⊢
    clear hW1
    have HHS := Lib.hid (show w.heap.size + 1 < w5.heap.size from HZ0.out)
    obtain ⟨a0, b0, t0, x0, hkk, hgg⟩ : ∃ a0 b0 t0 x0, KK rd A At Aa Ab Ag Ax c ct ca cb cg cx N w6.heap.size w7.heap.size wa.heap.size w5.heap.size a0 b0 t0 x0 o0 o1 o2 e l LA LB l L L w W1 ∧ (∀ g, At = some ⟨g, 0, none⟩ → g < a0 ∧ g < b0 ∧ g < t0) := by
      refine ⟨_, _, _, _, KK.mk HQ.out HN.out HA.out HBx.out HT.out OZ.out OA.out OB.out OT.out OX.out HHS.out ?_, fun g hg => ?_⟩
      · have h1 := HBx.out.lt
        have h2 := HXS.out
        have h3 := HS5.out
        have h7 := HS6.out
        have h5 := HZA.out
        have h6 := HZB.out
        simp at *
        omega
      · have h1 := HGZ.out g (by rw [hg]; rfl)
        have h2 := HZA.out
        have h3 := HZB.out
        have h4 := HZP.out
        have h5 := HZS.out
        have h6 := HZT.out
        simp at h2 h3 h4 h5 h6 ⊢
        omega
    have HKK := Lib.hid hkk
    have HG := Lib.hid hgg
    clear hkk hgg HQ HN OZ HA OA HBx OB OX OT HT HGZ HZA HZB HZP HZS HZT HXS HS5 HS6 HHS HZ0 HSB
    go_wp2_with fail
    go_loopw [12] (fun ii wr => ∃ i : Nat, i ≤ l.length ∧ ii = .int .i64 i ∧ KK rd A At Aa Ab Ag Ax c ct ca cb cg cx N w6.heap.size w7.heap.size wa.heap.size w5.heap.size a0 b0 t0 x0 o0 o1 o2 e l LA LB (zTo l i) L L w wr) (fun ii _ => l.length - (intOf ii).toNat)
    case atStart => exact ⟨0, by omega, rfl, by rw [zTo_zero]; exact HKK.out⟩
    case round =>
      clear HKK
      obtain ⟨i, hi, rfl, hk⟩ := hrel
      have HKK := Lib.hid hk
      clear hk
      have cn := HKK.out.n.cell
      by_cases hlt : i < l.length
      · have dk : decide ((i : Int) < (l.length : Int)) = true := decide_eq_true (by omega)
        have dk2 : (i : Int) < (l.length : Int) := by omega
        have hzl := zTo_len l i hi
        have HZ2 : Hid (Own wr w5.heap.size 46 encN (.slice At (zTo l i).length ct) (zTo l i)) := by show Own _ _ _ _ _ _; rw [hzl]; exact HKK.out.z
        obtain ⟨g, hg, _⟩ := own_some HZ2.out (by intro e; rw [e] at hzl; simp at hzl; omega)
        obtain rfl : At = some ⟨g, 0, none⟩ := hg
        have HGG := Lib.hid (HG.out g rfl)
        have HZS := Lib.hid (zTo_set l i hlt)
        go_wp2_with (refine wl_store_own rfl 46 (.tmp 91) (.tmp 90) rfl g ct (k := i) zEn #[.string ⟨#[]⟩, .int .i64 0, .bool false, .int .i64 0, .int .i64 0, .int .i64 0, .int .i64 0, .int .i64 0, .int .i64 0, .string ⟨#[]⟩, .int .i64 0, .int .i64 0] (by simp [Act.eval]) (by simp [Act.eval]) HZ2.out (by omega) rfl szE ?_; intro w8 ho hg8 hs8; have HZ8 := Lib.hid ho; have HG8 := Lib.hid hg8; clear ho hg8 hs8)
        go_roundw
        case rel => exact ⟨i + 1, by omega, by go_num, HKK.out.setZ HG8.out (by rw [← HZS.out, ← hzl]; exact HZ8.out) HGG.out.1 HGG.out.2.1 HGG.out.2.2⟩
        case measure => simp [intOf]; omega
      · obtain rfl : i = l.length := by omega
        have dk : decide ((l.length : Int) < (l.length : Int)) = false := by simp
        go_wp2_with fail
        go_loopw [13] (fun ii wx => ∃ (j : Nat) (X : List UInt8), j ≤ L.length ∧ ii = .int .i64 j ∧ X.length = L.length ∧ KK rd A At Aa Ab Ag Ax c ct ca cb cg cx N w6.heap.size w7.heap.size wa.heap.size w5.heap.size a0 b0 t0 x0 o0 o1 o2 e l LA LB (zTo l l.length) L X w wx) (fun ii _ => L.length - (intOf ii).toNat)
        case atStart => exact ⟨0, L, by omega, rfl, rfl, HKK.out⟩
        case round =>
          clear HKK
          obtain ⟨j, X, hj, rfl, hXl, hk⟩ := hrel
          have HKK := Lib.hid hk
          have HXL := Lib.hid hXl
          clear hk hXl
          by_cases hlt : j < L.length
          · have dk5 : decide ((j : Int) < (L.length : Int)) = true := decide_eq_true (by omega)
            have dk6 : (j : Int) < (L.length : Int) := by omega
            have hok : j < X.length := by rw [HXL.out]; exact hlt
            have hne : X ≠ [] := by intro e; rw [e] at hok; simp at hok
            have hx0 := HKK.out.x
            rw [← HXL.out] at hx0
            obtain ⟨g, hA3, hge⟩ := own_some hx0 hne
            obtain rfl : Ax = some ⟨g, 0, none⟩ := hA3
            have z0 := own_cells hx0 hok 0 (.int .u8 X[j].toNat) rfl
            rw [Nat.add_zero, Nat.mul_one] at z0
            have z1 := own_frozen hx0 rfl hne j
            have HN1 := Lib.hid (own_set1 hx0 hok 7 (.int .u8 7) rfl)
            have HKN := Lib.hid (HKK.out.setX HN1.out.2 (by have := HN1.out.1; rw [HXL.out] at this; exact this))
            have HXN := Lib.hid (show (X.set j 7).length = L.length from by rw [List.length_set]; exact HXL.out)
            clear hx0 hge hne
            generalize X[j] = xk at *
            go_wp2_with fail
            go_roundw
            case rel => exact ⟨j + 1, X.set j 7, by omega, by go_num, HXN.out, HKN.out⟩
            case measure => simp [intOf]; omega
          · obtain rfl : j = L.length := by omega
            have dk5 : decide ((L.length : Int) < (L.length : Int)) = false := by simp
            go_wp2_with fail
            have HQ := Lib.hid HKK.out.q
            have HA := Lib.hid HKK.out.ba
            have HBx := Lib.hid HKK.out.bb
            have HT := Lib.hid HKK.out.bt
            have RA := Lib.hid HKK.out.a.toRds
            have RB := Lib.hid HKK.out.b.toRds
            have RT := Lib.hid HKK.out.t.toRds
            clear HKK HXL
            have HQ := Lib.hid HQ.out.drew
            have HA := Lib.hid HA.out.drew
            have HBx := Lib.hid HBx.out.drew
            have HT := Lib.hid HT.out.drew
            have RA := Lib.hid RA.out.drew
            have RB := Lib.hid RB.out.drew
            have RT := Lib.hid RT.out.drew
            refine wp_region_held_drew (S := (fun w' => w'.cell? ⟨w6.heap.size, 0, none⟩ = some (.int .i64 rd) ∧ w'.cell? ⟨w6.heap.size, 1, none⟩ = some (.slice Aa LA.length ca) ∧ w'.cell? ⟨w6.heap.size, 2, none⟩ = some (.bool o0) ∧ w'.cell? ⟨w6.heap.size, 3, none⟩ = some (.bool o1) ∧ w'.cell? ⟨w6.heap.size, 4, none⟩ = some (.bool o2) ∧ w'.cell? ⟨w7.heap.size, 0, none⟩ = some (.int .i64 rd) ∧ w'.cell? ⟨w7.heap.size, 1, none⟩ = some (.slice Ab LB.length cb) ∧ w'.cell? ⟨w7.heap.size, 2, none⟩ = some (.bool o0) ∧ w'.cell? ⟨w7.heap.size, 3, none⟩ = some (.bool o1) ∧ w'.cell? ⟨w7.heap.size, 4, none⟩ = some (.bool o2) ∧ w'.cell? ⟨wa.heap.size, 0, none⟩ = some (.int .i64 rd) ∧ w'.cell? ⟨wa.heap.size, 1, none⟩ = some (.slice Ag l.length cg) ∧ w'.cell? ⟨wa.heap.size, 2, none⟩ = some (.bool o0) ∧ w'.cell? ⟨wa.heap.size, 3, none⟩ = some (.bool o1) ∧ w'.cell? ⟨wa.heap.size, 4, none⟩ = some (.bool o2) ∧ w'.cell? ⟨w.heap.size, 0, none⟩ = some (.int .i64 rd) ∧ w'.cell? ⟨w.heap.size, 1, none⟩ = some (.slice A l.length c) ∧ w'.cell? ⟨w.heap.size, 2, none⟩ = some (.bool o0) ∧ w'.cell? ⟨w.heap.size, 3, none⟩ = some (.bool o1) ∧ w'.cell? ⟨w.heap.size, 4, none⟩ = some (.bool o2) ∧ w'.cell? ⟨w.heap.size + 1, 0, none⟩ = some (.string e.pod.id) ∧ w'.cell? ⟨w.heap.size + 1, 1, none⟩ = some (.int .i64 e.pod.prio) ∧ w'.cell? ⟨w.heap.size + 1, 2, none⟩ = some (.bool e.pod.crit) ∧ w'.cell? ⟨w.heap.size + 1, 3, none⟩ = some (.int .i64 e.pod.q0) ∧ w'.cell? ⟨w.heap.size + 1, 4, none⟩ = some (.int .i64 e.pod.q1) ∧ w'.cell? ⟨w.heap.size + 1, 5, none⟩ = some (.int .i64 e.pod.q2) ∧ w'.cell? ⟨w.heap.size + 1, 6, none⟩ = some (.int .i64 e.pod.l0) ∧ w'.cell? ⟨w.heap.size + 1, 7, none⟩ = some (.int .i64 e.pod.l1) ∧ w'.cell? ⟨w.heap.size + 1, 8, none⟩ = some (.int .i64 e.pod.l2) ∧ w'.cell? ⟨w.heap.size + 1, 9, none⟩ = some (.string e.pod.image) ∧ w'.cell? ⟨w.heap.size + 1, 10, none⟩ = some (.int .i64 e.pod.size) ∧ w'.cell? ⟨w.heap.size + 1, 11, none⟩ = some (.int .i64 e.phase))) (by kernel_rfl) (⟨HA.out.cell 0, HA.out.cell 1, HA.out.cell 2, HA.out.cell 3, HA.out.cell 4, HBx.out.cell 0, HBx.out.cell 1, HBx.out.cell 2, HBx.out.cell 3, HBx.out.cell 4, HT.out.cell 0, HT.out.cell 1, HT.out.cell 2, HT.out.cell 3, HT.out.cell 4, HQ.out.sb.cell 0, HQ.out.sb.cell 1, HQ.out.sb.cell 2, HQ.out.sb.cell 3, HQ.out.sb.cell 4, HQ.out.eb.cell 0, HQ.out.eb.cell 1, HQ.out.eb.cell 2, HQ.out.eb.cell 3, HQ.out.eb.cell 4, HQ.out.eb.cell 5, HQ.out.eb.cell 6, HQ.out.eb.cell 7, HQ.out.eb.cell 8, HQ.out.eb.cell 9, HQ.out.eb.cell 10, HQ.out.eb.cell 11⟩) (fun hHeld => ?_)
            refine held_take 0 101 (.int .i64 0) rfl rfl (by kernel_rfl) (by kernel_rfl) (by kernel_rfl) (fun _ _ _ h => h) (by rfl) (by intro w' hSw; (try dsimp only at hSw); go_simp; (try (with_reducible rfl))) (by assumption) ?_
            simp only [Act.put, List.setIfInBounds_toArray, List.set_cons_zero, List.set_cons_succ]
            refine held_take 1 102 (.bool true) rfl rfl (by kernel_rfl) (by kernel_rfl) (by kernel_rfl) (fun _ _ _ h => h) (by rfl) (by intro w' hSw; (try dsimp only at hSw); go_simp; (first | done | with_reducible rfl | (simp; done))) (by assumption) ?_
            simp only [Act.put, List.setIfInBounds_toArray, List.set_cons_zero, List.set_cons_succ]
            refine held_take 2 103 (.bool true) rfl rfl (by kernel_rfl) (by kernel_rfl) (by kernel_rfl) (fun _ _ _ h => h) (by rfl) (by intro w' hSw; (try dsimp only at hSw); go_simp; (try (with_reducible rfl))) (by assumption) ?_
            simp only [Act.put, List.setIfInBounds_toArray, List.set_cons_zero, List.set_cons_succ]
            refine held_take 3 104 (.agg #[.int .i64 rd, .slice Ag l.length cg, .bool o0, .bool o1, .bool o2]) rfl rfl (by kernel_rfl) (by kernel_rfl) (by kernel_rfl) (fun _ _ _ h => h) (by rfl) (by intro w' hSw; (try dsimp only at hSw); go_simp; (try (with_reducible rfl))) (by assumption) ?_
            simp only [Act.put, List.setIfInBounds_toArray, List.set_cons_zero, List.set_cons_succ]
            refine held_take 4 105 (.agg #[.int .i64 rd, .slice A l.length c, .bool o0, .bool o1, .bool o2]) rfl rfl (by kernel_rfl) (by kernel_rfl) (by kernel_rfl) (fun _ _ _ h => h) (by rfl) (by intro w' hSw; (try dsimp only at hSw); go_simp; (try (with_reducible rfl))) (by assumption) ?_
            simp only [Act.put, List.setIfInBounds_toArray, List.set_cons_zero, List.set_cons_succ]
            refine held_call 5 106 rfl rfl (by kernel_rfl) (by rfl) (fun K hK => ?_)
            go_simp
            go_at_call 20; (with_reducible refine (same24_any rd l Ag A cg c o0 o1 o2 _ RT.out (HR.out.below HQ.out.bel) (by omega)).mono ?_); rintro x wq ⟨rfl, hb⟩
            have HQ := Lib.hid (HQ.out.below hb)
            have HA := Lib.hid (HA.out.belowAll hb)
            have HBx := Lib.hid (HBx.out.belowAll hb)
            have HT := Lib.hid (HT.out.belowAll hb)
            have RA := Lib.hid (RA.out.below hb)
            have RB := Lib.hid (RB.out.below hb)
            have RT := Lib.hid (RT.out.below hb)
            clear hb
            refine hK _ _ (⟨HA.out.cell 0, HA.out.cell 1, HA.out.cell 2, HA.out.cell 3, HA.out.cell 4, HBx.out.cell 0, HBx.out.cell 1, HBx.out.cell 2, HBx.out.cell 3, HBx.out.cell 4, HT.out.cell 0, HT.out.cell 1, HT.out.cell 2, HT.out.cell 3, HT.out.cell 4, HQ.out.sb.cell 0, HQ.out.sb.cell 1, HQ.out.sb.cell 2, HQ.out.sb.cell 3, HQ.out.sb.cell 4, HQ.out.eb.cell 0, HQ.out.eb.cell 1, HQ.out.eb.cell 2, HQ.out.eb.cell 3, HQ.out.eb.cell 4, HQ.out.eb.cell 5, HQ.out.eb.cell 6, HQ.out.eb.cell 7, HQ.out.eb.cell 8, HQ.out.eb.cell 9, HQ.out.eb.cell 10, HQ.out.eb.cell 11⟩) ?_
            have hHeld := (show wq.cell? ⟨w6.heap.size, 0, none⟩ = some (.int .i64 rd) ∧ wq.cell? ⟨w6.heap.size, 1, none⟩ = some (.slice Aa LA.length ca) ∧ wq.cell? ⟨w6.heap.size, 2, none⟩ = some (.bool o0) ∧ wq.cell? ⟨w6.heap.size, 3, none⟩ = some (.bool o1) ∧ wq.cell? ⟨w6.heap.size, 4, none⟩ = some (.bool o2) ∧ wq.cell? ⟨w7.heap.size, 0, none⟩ = some (.int .i64 rd) ∧ wq.cell? ⟨w7.heap.size, 1, none⟩ = some (.slice Ab LB.length cb) ∧ wq.cell? ⟨w7.heap.size, 2, none⟩ = some (.bool o0) ∧ wq.cell? ⟨w7.heap.size, 3, none⟩ = some (.bool o1) ∧ wq.cell? ⟨w7.heap.size, 4, none⟩ = some (.bool o2) ∧ wq.cell? ⟨wa.heap.size, 0, none⟩ = some (.int .i64 rd) ∧ wq.cell? ⟨wa.heap.size, 1, none⟩ = some (.slice Ag l.length cg) ∧ wq.cell? ⟨wa.heap.size, 2, none⟩ = some (.bool o0) ∧ wq.cell? ⟨wa.heap.size, 3, none⟩ = some (.bool o1) ∧ wq.cell? ⟨wa.heap.size, 4, none⟩ = some (.bool o2) ∧ wq.cell? ⟨w.heap.size, 0, none⟩ = some (.int .i64 rd) ∧ wq.cell? ⟨w.heap.size, 1, none⟩ = some (.slice A l.length c) ∧ wq.cell? ⟨w.heap.size, 2, none⟩ = some (.bool o0) ∧ wq.cell? ⟨w.heap.size, 3, none⟩ = some (.bool o1) ∧ wq.cell? ⟨w.heap.size, 4, none⟩ = some (.bool o2) ∧ wq.cell? ⟨w.heap.size + 1, 0, none⟩ = some (.string e.pod.id) ∧ wq.cell? ⟨w.heap.size + 1, 1, none⟩ = some (.int .i64 e.pod.prio) ∧ wq.cell? ⟨w.heap.size + 1, 2, none⟩ = some (.bool e.pod.crit) ∧ wq.cell? ⟨w.heap.size + 1, 3, none⟩ = some (.int .i64 e.pod.q0) ∧ wq.cell? ⟨w.heap.size + 1, 4, none⟩ = some (.int .i64 e.pod.q1) ∧ wq.cell? ⟨w.heap.size + 1, 5, none⟩ = some (.int .i64 e.pod.q2) ∧ wq.cell? ⟨w.heap.size + 1, 6, none⟩ = some (.int .i64 e.pod.l0) ∧ wq.cell? ⟨w.heap.size + 1, 7, none⟩ = some (.int .i64 e.pod.l1) ∧ wq.cell? ⟨w.heap.size + 1, 8, none⟩ = some (.int .i64 e.pod.l2) ∧ wq.cell? ⟨w.heap.size + 1, 9, none⟩ = some (.string e.pod.image) ∧ wq.cell? ⟨w.heap.size + 1, 10, none⟩ = some (.int .i64 e.pod.size) ∧ wq.cell? ⟨w.heap.size + 1, 11, none⟩ = some (.int .i64 e.phase) from ⟨HA.out.cell 0, HA.out.cell 1, HA.out.cell 2, HA.out.cell 3, HA.out.cell 4, HBx.out.cell 0, HBx.out.cell 1, HBx.out.cell 2, HBx.out.cell 3, HBx.out.cell 4, HT.out.cell 0, HT.out.cell 1, HT.out.cell 2, HT.out.cell 3, HT.out.cell 4, HQ.out.sb.cell 0, HQ.out.sb.cell 1, HQ.out.sb.cell 2, HQ.out.sb.cell 3, HQ.out.sb.cell 4, HQ.out.eb.cell 0, HQ.out.eb.cell 1, HQ.out.eb.cell 2, HQ.out.eb.cell 3, HQ.out.eb.cell 4, HQ.out.eb.cell 5, HQ.out.eb.cell 6, HQ.out.eb.cell 7, HQ.out.eb.cell 8, HQ.out.eb.cell 9, HQ.out.eb.cell 10, HQ.out.eb.cell 11⟩)
            clear hK K
            simp only [Act.put, List.setIfInBounds_toArray, List.set_cons_zero, List.set_cons_succ]
            refine held_take 6 107 (.bool true) rfl rfl (by kernel_rfl) (by kernel_rfl) (by kernel_rfl) (fun _ _ _ h => h) (by rfl) (by intro w' hSw; (try dsimp only at hSw); go_simp; (try (with_reducible rfl))) (by assumption) ?_
            simp only [Act.put, List.setIfInBounds_toArray, List.set_cons_zero, List.set_cons_succ]
            refine held_take 7 108 (.bool true) rfl rfl (by kernel_rfl) (by kernel_rfl) (by kernel_rfl) (fun _ _ _ h => h) (by rfl) (by intro w' hSw; (try dsimp only at hSw); go_simp; (try (with_reducible rfl))) (by assumption) ?_
            simp only [Act.put, List.setIfInBounds_toArray, List.set_cons_zero, List.set_cons_succ]
            refine held_take 8 109 (.agg #[.int .i64 rd, .slice Aa LA.length ca, .bool o0, .bool o1, .bool o2]) rfl rfl (by kernel_rfl) (by kernel_rfl) (by kernel_rfl) (fun _ _ _ h => h) (by rfl) (by intro w' hSw; (try dsimp only at hSw); go_simp; (try (with_reducible rfl))) (by assumption) ?_
            simp only [Act.put, List.setIfInBounds_toArray, List.set_cons_zero, List.set_cons_succ]
            refine held_take 9 110 (.agg #[.int .i64 rd, .slice A l.length c, .bool o0, .bool o1, .bool o2]) rfl rfl (by kernel_rfl) (by kernel_rfl) (by kernel_rfl) (fun _ _ _ h => h) (by rfl) (by intro w' hSw; (try dsimp only at hSw); go_simp; (try (with_reducible rfl))) (by assumption) ?_
            simp only [Act.put, List.setIfInBounds_toArray, List.set_cons_zero, List.set_cons_succ]
            refine held_take 10 111 (.agg #[.string e.pod.id, .int .i64 e.pod.prio, .bool e.pod.crit, .int .i64 e.pod.q0, .int .i64 e.pod.q1, .int .i64 e.pod.q2, .int .i64 e.pod.l0, .int .i64 e.pod.l1, .int .i64 e.pod.l2, .string e.pod.image, .int .i64 e.pod.size, .int .i64 e.phase]) rfl rfl (by kernel_rfl) (by kernel_rfl) (by kernel_rfl) (fun _ _ _ h => h) (by rfl) (by intro w' hSw; (try dsimp only at hSw); go_simp; (try (with_reducible rfl))) (by assumption) ?_
            simp only [Act.put, List.setIfInBounds_toArray, List.set_cons_zero, List.set_cons_succ]
            refine held_call 11 112 rfl rfl (by kernel_rfl) (by rfl) (fun K hK => ?_)
            go_simp
            go_at_call 27; (with_reducible refine (HW24.out A c _ (HR.out.below HQ.out.bel) (by omega)).mono ?_); rintro x wq ⟨A5, c5, rfl, ho, hb⟩
            have R5 := Lib.hid ho.toRds
            clear ho
            have HQ := Lib.hid (HQ.out.below hb)
            have HA := Lib.hid (HA.out.belowAll hb)
            have HBx := Lib.hid (HBx.out.belowAll hb)
            have HT := Lib.hid (HT.out.belowAll hb)
            have RA := Lib.hid (RA.out.below hb)
            have RB := Lib.hid (RB.out.below hb)
            have RT := Lib.hid (RT.out.below hb)
            clear hb
            refine hK _ _ (⟨HA.out.cell 0, HA.out.cell 1, HA.out.cell 2, HA.out.cell 3, HA.out.cell 4, HBx.out.cell 0, HBx.out.cell 1, HBx.out.cell 2, HBx.out.cell 3, HBx.out.cell 4, HT.out.cell 0, HT.out.cell 1, HT.out.cell 2, HT.out.cell 3, HT.out.cell 4, HQ.out.sb.cell 0, HQ.out.sb.cell 1, HQ.out.sb.cell 2, HQ.out.sb.cell 3, HQ.out.sb.cell 4, HQ.out.eb.cell 0, HQ.out.eb.cell 1, HQ.out.eb.cell 2, HQ.out.eb.cell 3, HQ.out.eb.cell 4, HQ.out.eb.cell 5, HQ.out.eb.cell 6, HQ.out.eb.cell 7, HQ.out.eb.cell 8, HQ.out.eb.cell 9, HQ.out.eb.cell 10, HQ.out.eb.cell 11⟩) ?_
            have hHeld := (show wq.cell? ⟨w6.heap.size, 0, none⟩ = some (.int .i64 rd) ∧ wq.cell? ⟨w6.heap.size, 1, none⟩ = some (.slice Aa LA.length ca) ∧ wq.cell? ⟨w6.heap.size, 2, none⟩ = some (.bool o0) ∧ wq.cell? ⟨w6.heap.size, 3, none⟩ = some (.bool o1) ∧ wq.cell? ⟨w6.heap.size, 4, none⟩ = some (.bool o2) ∧ wq.cell? ⟨w7.heap.size, 0, none⟩ = some (.int .i64 rd) ∧ wq.cell? ⟨w7.heap.size, 1, none⟩ = some (.slice Ab LB.length cb) ∧ wq.cell? ⟨w7.heap.size, 2, none⟩ = some (.bool o0) ∧ wq.cell? ⟨w7.heap.size, 3, none⟩ = some (.bool o1) ∧ wq.cell? ⟨w7.heap.size, 4, none⟩ = some (.bool o2) ∧ wq.cell? ⟨wa.heap.size, 0, none⟩ = some (.int .i64 rd) ∧ wq.cell? ⟨wa.heap.size, 1, none⟩ = some (.slice Ag l.length cg) ∧ wq.cell? ⟨wa.heap.size, 2, none⟩ = some (.bool o0) ∧ wq.cell? ⟨wa.heap.size, 3, none⟩ = some (.bool o1) ∧ wq.cell? ⟨wa.heap.size, 4, none⟩ = some (.bool o2) ∧ wq.cell? ⟨w.heap.size, 0, none⟩ = some (.int .i64 rd) ∧ wq.cell? ⟨w.heap.size, 1, none⟩ = some (.slice A l.length c) ∧ wq.cell? ⟨w.heap.size, 2, none⟩ = some (.bool o0) ∧ wq.cell? ⟨w.heap.size, 3, none⟩ = some (.bool o1) ∧ wq.cell? ⟨w.heap.size, 4, none⟩ = some (.bool o2) ∧ wq.cell? ⟨w.heap.size + 1, 0, none⟩ = some (.string e.pod.id) ∧ wq.cell? ⟨w.heap.size + 1, 1, none⟩ = some (.int .i64 e.pod.prio) ∧ wq.cell? ⟨w.heap.size + 1, 2, none⟩ = some (.bool e.pod.crit) ∧ wq.cell? ⟨w.heap.size + 1, 3, none⟩ = some (.int .i64 e.pod.q0) ∧ wq.cell? ⟨w.heap.size + 1, 4, none⟩ = some (.int .i64 e.pod.q1) ∧ wq.cell? ⟨w.heap.size + 1, 5, none⟩ = some (.int .i64 e.pod.q2) ∧ wq.cell? ⟨w.heap.size + 1, 6, none⟩ = some (.int .i64 e.pod.l0) ∧ wq.cell? ⟨w.heap.size + 1, 7, none⟩ = some (.int .i64 e.pod.l1) ∧ wq.cell? ⟨w.heap.size + 1, 8, none⟩ = some (.int .i64 e.pod.l2) ∧ wq.cell? ⟨w.heap.size + 1, 9, none⟩ = some (.string e.pod.image) ∧ wq.cell? ⟨w.heap.size + 1, 10, none⟩ = some (.int .i64 e.pod.size) ∧ wq.cell? ⟨w.heap.size + 1, 11, none⟩ = some (.int .i64 e.phase) from ⟨HA.out.cell 0, HA.out.cell 1, HA.out.cell 2, HA.out.cell 3, HA.out.cell 4, HBx.out.cell 0, HBx.out.cell 1, HBx.out.cell 2, HBx.out.cell 3, HBx.out.cell 4, HT.out.cell 0, HT.out.cell 1, HT.out.cell 2, HT.out.cell 3, HT.out.cell 4, HQ.out.sb.cell 0, HQ.out.sb.cell 1, HQ.out.sb.cell 2, HQ.out.sb.cell 3, HQ.out.sb.cell 4, HQ.out.eb.cell 0, HQ.out.eb.cell 1, HQ.out.eb.cell 2, HQ.out.eb.cell 3, HQ.out.eb.cell 4, HQ.out.eb.cell 5, HQ.out.eb.cell 6, HQ.out.eb.cell 7, HQ.out.eb.cell 8, HQ.out.eb.cell 9, HQ.out.eb.cell 10, HQ.out.eb.cell 11⟩)
            clear hK K
            simp only [Act.put, List.setIfInBounds_toArray, List.set_cons_zero, List.set_cons_succ]
            refine held_call 12 113 rfl rfl (by kernel_rfl) (by rfl) (fun K hK => ?_)
            go_simp
            go_at_call 20; (with_reducible refine (same24_any rd LA Aa A5 ca c5 o0 o1 o2 _ RA.out R5.out (by have := HLA.out; omega)).mono ?_); rintro x wq ⟨rfl, hb⟩
            clear R5
            have HQ := Lib.hid (HQ.out.below hb)
            have HA := Lib.hid (HA.out.belowAll hb)
            have HBx := Lib.hid (HBx.out.belowAll hb)
            have HT := Lib.hid (HT.out.belowAll hb)
            have RA := Lib.hid (RA.out.below hb)
            have RB := Lib.hid (RB.out.below hb)
            have RT := Lib.hid (RT.out.below hb)
            clear hb
            refine hK _ _ (⟨HA.out.cell 0, HA.out.cell 1, HA.out.cell 2, HA.out.cell 3, HA.out.cell 4, HBx.out.cell 0, HBx.out.cell 1, HBx.out.cell 2, HBx.out.cell 3, HBx.out.cell 4, HT.out.cell 0, HT.out.cell 1, HT.out.cell 2, HT.out.cell 3, HT.out.cell 4, HQ.out.sb.cell 0, HQ.out.sb.cell 1, HQ.out.sb.cell 2, HQ.out.sb.cell 3, HQ.out.sb.cell 4, HQ.out.eb.cell 0, HQ.out.eb.cell 1, HQ.out.eb.cell 2, HQ.out.eb.cell 3, HQ.out.eb.cell 4, HQ.out.eb.cell 5, HQ.out.eb.cell 6, HQ.out.eb.cell 7, HQ.out.eb.cell 8, HQ.out.eb.cell 9, HQ.out.eb.cell 10, HQ.out.eb.cell 11⟩) ?_
            have hHeld := (show wq.cell? ⟨w6.heap.size, 0, none⟩ = some (.int .i64 rd) ∧ wq.cell? ⟨w6.heap.size, 1, none⟩ = some (.slice Aa LA.length ca) ∧ wq.cell? ⟨w6.heap.size, 2, none⟩ = some (.bool o0) ∧ wq.cell? ⟨w6.heap.size, 3, none⟩ = some (.bool o1) ∧ wq.cell? ⟨w6.heap.size, 4, none⟩ = some (.bool o2) ∧ wq.cell? ⟨w7.heap.size, 0, none⟩ = some (.int .i64 rd) ∧ wq.cell? ⟨w7.heap.size, 1, none⟩ = some (.slice Ab LB.length cb) ∧ wq.cell? ⟨w7.heap.size, 2, none⟩ = some (.bool o0) ∧ wq.cell? ⟨w7.heap.size, 3, none⟩ = some (.bool o1) ∧ wq.cell? ⟨w7.heap.size, 4, none⟩ = some (.bool o2) ∧ wq.cell? ⟨wa.heap.size, 0, none⟩ = some (.int .i64 rd) ∧ wq.cell? ⟨wa.heap.size, 1, none⟩ = some (.slice Ag l.length cg) ∧ wq.cell? ⟨wa.heap.size, 2, none⟩ = some (.bool o0) ∧ wq.cell? ⟨wa.heap.size, 3, none⟩ = some (.bool o1) ∧ wq.cell? ⟨wa.heap.size, 4, none⟩ = some (.bool o2) ∧ wq.cell? ⟨w.heap.size, 0, none⟩ = some (.int .i64 rd) ∧ wq.cell? ⟨w.heap.size, 1, none⟩ = some (.slice A l.length c) ∧ wq.cell? ⟨w.heap.size, 2, none⟩ = some (.bool o0) ∧ wq.cell? ⟨w.heap.size, 3, none⟩ = some (.bool o1) ∧ wq.cell? ⟨w.heap.size, 4, none⟩ = some (.bool o2) ∧ wq.cell? ⟨w.heap.size + 1, 0, none⟩ = some (.string e.pod.id) ∧ wq.cell? ⟨w.heap.size + 1, 1, none⟩ = some (.int .i64 e.pod.prio) ∧ wq.cell? ⟨w.heap.size + 1, 2, none⟩ = some (.bool e.pod.crit) ∧ wq.cell? ⟨w.heap.size + 1, 3, none⟩ = some (.int .i64 e.pod.q0) ∧ wq.cell? ⟨w.heap.size + 1, 4, none⟩ = some (.int .i64 e.pod.q1) ∧ wq.cell? ⟨w.heap.size + 1, 5, none⟩ = some (.int .i64 e.pod.q2) ∧ wq.cell? ⟨w.heap.size + 1, 6, none⟩ = some (.int .i64 e.pod.l0) ∧ wq.cell? ⟨w.heap.size + 1, 7, none⟩ = some (.int .i64 e.pod.l1) ∧ wq.cell? ⟨w.heap.size + 1, 8, none⟩ = some (.int .i64 e.pod.l2) ∧ wq.cell? ⟨w.heap.size + 1, 9, none⟩ = some (.string e.pod.image) ∧ wq.cell? ⟨w.heap.size + 1, 10, none⟩ = some (.int .i64 e.pod.size) ∧ wq.cell? ⟨w.heap.size + 1, 11, none⟩ = some (.int .i64 e.phase) from ⟨HA.out.cell 0, HA.out.cell 1, HA.out.cell 2, HA.out.cell 3, HA.out.cell 4, HBx.out.cell 0, HBx.out.cell 1, HBx.out.cell 2, HBx.out.cell 3, HBx.out.cell 4, HT.out.cell 0, HT.out.cell 1, HT.out.cell 2, HT.out.cell 3, HT.out.cell 4, HQ.out.sb.cell 0, HQ.out.sb.cell 1, HQ.out.sb.cell 2, HQ.out.sb.cell 3, HQ.out.sb.cell 4, HQ.out.eb.cell 0, HQ.out.eb.cell 1, HQ.out.eb.cell 2, HQ.out.eb.cell 3, HQ.out.eb.cell 4, HQ.out.eb.cell 5, HQ.out.eb.cell 6, HQ.out.eb.cell 7, HQ.out.eb.cell 8, HQ.out.eb.cell 9, HQ.out.eb.cell 10, HQ.out.eb.cell 11⟩)
            clear hK K
            simp only [Act.put, List.setIfInBounds_toArray, List.set_cons_zero, List.set_cons_succ]
            refine held_take 13 114 (.bool true) rfl rfl (by kernel_rfl) (by kernel_rfl) (by kernel_rfl) (fun _ _ _ h => h) (by rfl) (by intro w' hSw; (try dsimp only at hSw); go_simp; (try (with_reducible rfl))) (by assumption) ?_
            simp only [Act.put, List.setIfInBounds_toArray, List.set_cons_zero, List.set_cons_succ]
            refine held_take 14 115 (.bool true) rfl rfl (by kernel_rfl) (by kernel_rfl) (by kernel_rfl) (fun _ _ _ h => h) (by rfl) (by intro w' hSw; (try dsimp only at hSw); go_simp; (try (with_reducible rfl))) (by assumption) ?_
            simp only [Act.put, List.setIfInBounds_toArray, List.set_cons_zero, List.set_cons_succ]
            refine held_take 15 116 (.agg #[.int .i64 rd, .slice Ab LB.length cb, .bool o0, .bool o1, .bool o2]) rfl rfl (by kernel_rfl) (by kernel_rfl) (by kernel_rfl) (fun _ _ _ h => h) (by rfl) (by intro w' hSw; (try dsimp only at hSw); go_simp; (try (with_reducible rfl))) (by assumption) ?_
            simp only [Act.put, List.setIfInBounds_toArray, List.set_cons_zero, List.set_cons_succ]
            refine held_take 16 117 (.agg #[.int .i64 rd, .slice A l.length c, .bool o0, .bool o1, .bool o2]) rfl rfl (by kernel_rfl) (by kernel_rfl) (by kernel_rfl) (fun _ _ _ h => h) (by rfl) (by intro w' hSw; (try dsimp only at hSw); go_simp; (try (with_reducible rfl))) (by assumption) ?_
            simp only [Act.put, List.setIfInBounds_toArray, List.set_cons_zero, List.set_cons_succ]
            refine held_take 17 118 (.pointer (some ⟨w.heap.size + 1, 0, none⟩)) rfl rfl (by kernel_rfl) (by kernel_rfl) (by kernel_rfl) (fun _ _ _ h => h) (by rfl) (by intro w' hSw; (try dsimp only at hSw); go_simp; (try (with_reducible rfl))) (by assumption) ?_
            simp only [Act.put, List.setIfInBounds_toArray, List.set_cons_zero, List.set_cons_succ]
            refine held_take 18 119 (.pointer (some ⟨w.heap.size + 1, 0, none⟩)) rfl rfl (by kernel_rfl) (by kernel_rfl) (by kernel_rfl) (fun _ _ _ h => h) (by rfl) (by intro w' hSw; (try dsimp only at hSw); go_simp; (try (with_reducible rfl))) (by assumption) ?_
            simp only [Act.put, List.setIfInBounds_toArray, List.set_cons_zero, List.set_cons_succ]
            refine held_take 19 120 (.string e.pod.id) rfl rfl (by kernel_rfl) (by kernel_rfl) (by kernel_rfl) (fun _ _ _ h => h) (by rfl) (by intro w' hSw; (try dsimp only at hSw); go_simp; (try (with_reducible rfl))) (by assumption) ?_
            simp only [Act.put, List.setIfInBounds_toArray, List.set_cons_zero, List.set_cons_succ]
            refine held_call 20 121 rfl rfl (by kernel_rfl) (by rfl) (fun K hK => ?_)
            go_simp
            go_at_call 28; (with_reducible refine (HX24.out A c _ (HR.out.below HQ.out.bel) (by omega)).mono ?_); rintro x wq ⟨A6, c6, rfl, ho, hb⟩
            have R6 := Lib.hid ho.toRds
            clear ho
            have HQ := Lib.hid (HQ.out.below hb)
            have HA := Lib.hid (HA.out.belowAll hb)
            have HBx := Lib.hid (HBx.out.belowAll hb)
            have HT := Lib.hid (HT.out.belowAll hb)
            have RA := Lib.hid (RA.out.below hb)
            have RB := Lib.hid (RB.out.below hb)
            have RT := Lib.hid (RT.out.below hb)
            clear hb
            refine hK _ _ (⟨HA.out.cell 0, HA.out.cell 1, HA.out.cell 2, HA.out.cell 3, HA.out.cell 4, HBx.out.cell 0, HBx.out.cell 1, HBx.out.cell 2, HBx.out.cell 3, HBx.out.cell 4, HT.out.cell 0, HT.out.cell 1, HT.out.cell 2, HT.out.cell 3, HT.out.cell 4, HQ.out.sb.cell 0, HQ.out.sb.cell 1, HQ.out.sb.cell 2, HQ.out.sb.cell 3, HQ.out.sb.cell 4, HQ.out.eb.cell 0, HQ.out.eb.cell 1, HQ.out.eb.cell 2, HQ.out.eb.cell 3, HQ.out.eb.cell 4, HQ.out.eb.cell 5, HQ.out.eb.cell 6, HQ.out.eb.cell 7, HQ.out.eb.cell 8, HQ.out.eb.cell 9, HQ.out.eb.cell 10, HQ.out.eb.cell 11⟩) ?_
            have hHeld := (show wq.cell? ⟨w6.heap.size, 0, none⟩ = some (.int .i64 rd) ∧ wq.cell? ⟨w6.heap.size, 1, none⟩ = some (.slice Aa LA.length ca) ∧ wq.cell? ⟨w6.heap.size, 2, none⟩ = some (.bool o0) ∧ wq.cell? ⟨w6.heap.size, 3, none⟩ = some (.bool o1) ∧ wq.cell? ⟨w6.heap.size, 4, none⟩ = some (.bool o2) ∧ wq.cell? ⟨w7.heap.size, 0, none⟩ = some (.int .i64 rd) ∧ wq.cell? ⟨w7.heap.size, 1, none⟩ = some (.slice Ab LB.length cb) ∧ wq.cell? ⟨w7.heap.size, 2, none⟩ = some (.bool o0) ∧ wq.cell? ⟨w7.heap.size, 3, none⟩ = some (.bool o1) ∧ wq.cell? ⟨w7.heap.size, 4, none⟩ = some (.bool o2) ∧ wq.cell? ⟨wa.heap.size, 0, none⟩ = some (.int .i64 rd) ∧ wq.cell? ⟨wa.heap.size, 1, none⟩ = some (.slice Ag l.length cg) ∧ wq.cell? ⟨wa.heap.size, 2, none⟩ = some (.bool o0) ∧ wq.cell? ⟨wa.heap.size, 3, none⟩ = some (.bool o1) ∧ wq.cell? ⟨wa.heap.size, 4, none⟩ = some (.bool o2) ∧ wq.cell? ⟨w.heap.size, 0, none⟩ = some (.int .i64 rd) ∧ wq.cell? ⟨w.heap.size, 1, none⟩ = some (.slice A l.length c) ∧ wq.cell? ⟨w.heap.size, 2, none⟩ = some (.bool o0) ∧ wq.cell? ⟨w.heap.size, 3, none⟩ = some (.bool o1) ∧ wq.cell? ⟨w.heap.size, 4, none⟩ = some (.bool o2) ∧ wq.cell? ⟨w.heap.size + 1, 0, none⟩ = some (.string e.pod.id) ∧ wq.cell? ⟨w.heap.size + 1, 1, none⟩ = some (.int .i64 e.pod.prio) ∧ wq.cell? ⟨w.heap.size + 1, 2, none⟩ = some (.bool e.pod.crit) ∧ wq.cell? ⟨w.heap.size + 1, 3, none⟩ = some (.int .i64 e.pod.q0) ∧ wq.cell? ⟨w.heap.size + 1, 4, none⟩ = some (.int .i64 e.pod.q1) ∧ wq.cell? ⟨w.heap.size + 1, 5, none⟩ = some (.int .i64 e.pod.q2) ∧ wq.cell? ⟨w.heap.size + 1, 6, none⟩ = some (.int .i64 e.pod.l0) ∧ wq.cell? ⟨w.heap.size + 1, 7, none⟩ = some (.int .i64 e.pod.l1) ∧ wq.cell? ⟨w.heap.size + 1, 8, none⟩ = some (.int .i64 e.pod.l2) ∧ wq.cell? ⟨w.heap.size + 1, 9, none⟩ = some (.string e.pod.image) ∧ wq.cell? ⟨w.heap.size + 1, 10, none⟩ = some (.int .i64 e.pod.size) ∧ wq.cell? ⟨w.heap.size + 1, 11, none⟩ = some (.int .i64 e.phase) from ⟨HA.out.cell 0, HA.out.cell 1, HA.out.cell 2, HA.out.cell 3, HA.out.cell 4, HBx.out.cell 0, HBx.out.cell 1, HBx.out.cell 2, HBx.out.cell 3, HBx.out.cell 4, HT.out.cell 0, HT.out.cell 1, HT.out.cell 2, HT.out.cell 3, HT.out.cell 4, HQ.out.sb.cell 0, HQ.out.sb.cell 1, HQ.out.sb.cell 2, HQ.out.sb.cell 3, HQ.out.sb.cell 4, HQ.out.eb.cell 0, HQ.out.eb.cell 1, HQ.out.eb.cell 2, HQ.out.eb.cell 3, HQ.out.eb.cell 4, HQ.out.eb.cell 5, HQ.out.eb.cell 6, HQ.out.eb.cell 7, HQ.out.eb.cell 8, HQ.out.eb.cell 9, HQ.out.eb.cell 10, HQ.out.eb.cell 11⟩)
            clear hK K
            simp only [Act.put, List.setIfInBounds_toArray, List.set_cons_zero, List.set_cons_succ]
            refine held_call 21 122 rfl rfl (by kernel_rfl) (by rfl) (fun K hK => ?_)
            go_simp
            go_at_call 20; (with_reducible refine (same24_any rd LB Ab A6 cb c6 o0 o1 o2 _ RB.out R6.out (by have := HLB.out; omega)).mono ?_); rintro x wq ⟨rfl, hb⟩
            clear R6
            have HQ := Lib.hid (HQ.out.below hb)
            have HA := Lib.hid (HA.out.belowAll hb)
            have HBx := Lib.hid (HBx.out.belowAll hb)
            have HT := Lib.hid (HT.out.belowAll hb)
            have RA := Lib.hid (RA.out.below hb)
            have RB := Lib.hid (RB.out.below hb)
            have RT := Lib.hid (RT.out.below hb)
            clear hb
            refine hK _ _ (⟨HA.out.cell 0, HA.out.cell 1, HA.out.cell 2, HA.out.cell 3, HA.out.cell 4, HBx.out.cell 0, HBx.out.cell 1, HBx.out.cell 2, HBx.out.cell 3, HBx.out.cell 4, HT.out.cell 0, HT.out.cell 1, HT.out.cell 2, HT.out.cell 3, HT.out.cell 4, HQ.out.sb.cell 0, HQ.out.sb.cell 1, HQ.out.sb.cell 2, HQ.out.sb.cell 3, HQ.out.sb.cell 4, HQ.out.eb.cell 0, HQ.out.eb.cell 1, HQ.out.eb.cell 2, HQ.out.eb.cell 3, HQ.out.eb.cell 4, HQ.out.eb.cell 5, HQ.out.eb.cell 6, HQ.out.eb.cell 7, HQ.out.eb.cell 8, HQ.out.eb.cell 9, HQ.out.eb.cell 10, HQ.out.eb.cell 11⟩) ?_
            have hHeld := (show wq.cell? ⟨w6.heap.size, 0, none⟩ = some (.int .i64 rd) ∧ wq.cell? ⟨w6.heap.size, 1, none⟩ = some (.slice Aa LA.length ca) ∧ wq.cell? ⟨w6.heap.size, 2, none⟩ = some (.bool o0) ∧ wq.cell? ⟨w6.heap.size, 3, none⟩ = some (.bool o1) ∧ wq.cell? ⟨w6.heap.size, 4, none⟩ = some (.bool o2) ∧ wq.cell? ⟨w7.heap.size, 0, none⟩ = some (.int .i64 rd) ∧ wq.cell? ⟨w7.heap.size, 1, none⟩ = some (.slice Ab LB.length cb) ∧ wq.cell? ⟨w7.heap.size, 2, none⟩ = some (.bool o0) ∧ wq.cell? ⟨w7.heap.size, 3, none⟩ = some (.bool o1) ∧ wq.cell? ⟨w7.heap.size, 4, none⟩ = some (.bool o2) ∧ wq.cell? ⟨wa.heap.size, 0, none⟩ = some (.int .i64 rd) ∧ wq.cell? ⟨wa.heap.size, 1, none⟩ = some (.slice Ag l.length cg) ∧ wq.cell? ⟨wa.heap.size, 2, none⟩ = some (.bool o0) ∧ wq.cell? ⟨wa.heap.size, 3, none⟩ = some (.bool o1) ∧ wq.cell? ⟨wa.heap.size, 4, none⟩ = some (.bool o2) ∧ wq.cell? ⟨w.heap.size, 0, none⟩ = some (.int .i64 rd) ∧ wq.cell? ⟨w.heap.size, 1, none⟩ = some (.slice A l.length c) ∧ wq.cell? ⟨w.heap.size, 2, none⟩ = some (.bool o0) ∧ wq.cell? ⟨w.heap.size, 3, none⟩ = some (.bool o1) ∧ wq.cell? ⟨w.heap.size, 4, none⟩ = some (.bool o2) ∧ wq.cell? ⟨w.heap.size + 1, 0, none⟩ = some (.string e.pod.id) ∧ wq.cell? ⟨w.heap.size + 1, 1, none⟩ = some (.int .i64 e.pod.prio) ∧ wq.cell? ⟨w.heap.size + 1, 2, none⟩ = some (.bool e.pod.crit) ∧ wq.cell? ⟨w.heap.size + 1, 3, none⟩ = some (.int .i64 e.pod.q0) ∧ wq.cell? ⟨w.heap.size + 1, 4, none⟩ = some (.int .i64 e.pod.q1) ∧ wq.cell? ⟨w.heap.size + 1, 5, none⟩ = some (.int .i64 e.pod.q2) ∧ wq.cell? ⟨w.heap.size + 1, 6, none⟩ = some (.int .i64 e.pod.l0) ∧ wq.cell? ⟨w.heap.size + 1, 7, none⟩ = some (.int .i64 e.pod.l1) ∧ wq.cell? ⟨w.heap.size + 1, 8, none⟩ = some (.int .i64 e.pod.l2) ∧ wq.cell? ⟨w.heap.size + 1, 9, none⟩ = some (.string e.pod.image) ∧ wq.cell? ⟨w.heap.size + 1, 10, none⟩ = some (.int .i64 e.pod.size) ∧ wq.cell? ⟨w.heap.size + 1, 11, none⟩ = some (.int .i64 e.phase) from ⟨HA.out.cell 0, HA.out.cell 1, HA.out.cell 2, HA.out.cell 3, HA.out.cell 4, HBx.out.cell 0, HBx.out.cell 1, HBx.out.cell 2, HBx.out.cell 3, HBx.out.cell 4, HT.out.cell 0, HT.out.cell 1, HT.out.cell 2, HT.out.cell 3, HT.out.cell 4, HQ.out.sb.cell 0, HQ.out.sb.cell 1, HQ.out.sb.cell 2, HQ.out.sb.cell 3, HQ.out.sb.cell 4, HQ.out.eb.cell 0, HQ.out.eb.cell 1, HQ.out.eb.cell 2, HQ.out.eb.cell 3, HQ.out.eb.cell 4, HQ.out.eb.cell 5, HQ.out.eb.cell 6, HQ.out.eb.cell 7, HQ.out.eb.cell 8, HQ.out.eb.cell 9, HQ.out.eb.cell 10, HQ.out.eb.cell 11⟩)
            clear hK K
            simp only [Act.put, List.setIfInBounds_toArray, List.set_cons_zero, List.set_cons_succ]
            refine held_take 22 123 (.bool true) rfl rfl (by kernel_rfl) (by kernel_rfl) (by kernel_rfl) (fun _ _ _ h => h) (by rfl) (by intro w' hSw; (try dsimp only at hSw); go_simp; (try (with_reducible rfl))) (by assumption) ?_
            simp only [Act.put, List.setIfInBounds_toArray, List.set_cons_zero, List.set_cons_succ]
            refine held_take 23 4 (.bool true) rfl rfl (by kernel_rfl) (by kernel_rfl) (by kernel_rfl) (fun _ _ _ h => h) (by rfl) (by intro w' hSw; (try dsimp only at hSw); go_simp; (try (with_reducible rfl))) (by assumption) ?_
            simp only [Act.put, List.setIfInBounds_toArray, List.set_cons_zero, List.set_cons_succ]
            refine wpAnyH_done (by kernel_rfl) ?_ _
            clear hHeld
            go_wp2_with fail
            go_ret
            exact ⟨rfl, HQ.out.bel⟩
end Go.Proofs.YtakgblgbfbpmoaaDoor
