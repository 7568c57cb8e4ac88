/- bilgelaw24.StateUnlike: unlike right states have unlike bytes. -/
import Derived.Test.YtakgblgbfbpmoaaDoorMV
import Derived.Test.YtakgblgbfbpmoaaDoorStB
import Derived.Test.YtakgblgbfbpmoaaDoorStSameV
namespace Go.Proofs.YtakgblgbfbpmoaaDoor
open Go.RowKit

theorem unlike_plain {rd re : Int} {l m : List En} {o0 o1 o2 p0 p1 p2 : Bool} (hl : RightS rd l) (hm : RightS re m) (hw : ∀ x ∈ l, x.pod.Wf) (hv : ∀ x ∈ m, x.pod.Wf) {v : Bool} (h : (putS rd o0 o1 o2 l == putS re p0 p1 p2 m) = v) : v = true ↔ (rd = re ∧ o0 = p0 ∧ o1 = p1 ∧ o2 = p2 ∧ l = m) := by
  subst h
  rw [beq_iff_eq]
  constructor
  · intro e
    have h1 := got_put (a := o0) (b := o1) (c := o2) hl hw
    rw [e] at h1
    exact h1.one (got_put hm hv)
  · rintro ⟨rfl, rfl, rfl, rfl, rfl⟩
    rfl
set_option maxRecDepth 100000 in
set_option maxHeartbeats 16000000 in
theorem stateUnlike_any (rd re : Int) (l m : List En) (A B : Option Addr) (c d : Nat) (o0 o1 o2 p0 p1 p2 : Bool) (w : World) (hr : Rds w encN A l) (hw : ∀ x ∈ l, x.pod.Wf ∧ I64 x.phase) (hm : l.length ≤ 9223372036854775807) (hs : Rds w encN B m) (hv : ∀ x ∈ m, x.pod.Wf ∧ I64 x.phase) (hm2 : m.length ≤ 9223372036854775807) :
    Calls Tryd.prog 6 #[.agg #[.int .i64 rd, .slice A l.length c, .bool o0, .bool o1, .bool o2], .agg #[.int .i64 re, .slice B m.length d, .bool p0, .bool p1, .bool p2]] w fun e w' => e = .returned (.bool true) ∧ Below w.heap.size w w' := by
  have mixed : Tryd.prog.follows Departure.mixedOrders = true := by kernel_rfl
  have HQ := Lib.hid (Q2.new rd re A B l.length m.length c d o0 o1 o2 p0 p1 p2 w)
  have HR := Lib.hid hr
  have HS := Lib.hid hs
  have HW := Lib.hid (show ∀ x ∈ l, x.pod.Wf from fun x hx => (hw x hx).1)
  have HV := Lib.hid (show ∀ x ∈ m, x.pod.Wf from fun x hx => (hv x hx).1)
  clear hr hw hs hv
  go_enter Tryd.func6, Tryd.ntmps6
  go_wp2_with fail
  refine (awake24_any _).mono ?_; rintro e w1 ⟨rfl, hb⟩
  have HQ := Lib.hid (HQ.out.below hb)
  clear hb
  have cs := HQ.out.sa.cell
  have ct := HQ.out.sb.cell
  go_wp2_with fail
  obtain ⟨v1, hv1⟩ : ∃ v, fewS l = v := ⟨_, rfl⟩
  have HF1 := Lib.hid hv1
  clear hv1
  refine (few24_any HF1.out rd A c o0 o1 o2 _ (HR.out.below HQ.out.bel) hm).mono ?_; rintro e w2 ⟨rfl, hb⟩
  have HQ := Lib.hid (HQ.out.below hb)
  clear hb cs ct
  cases v1
  · go_wp2_with fail
    refine (awake24_any _).mono ?_; rintro e w9 ⟨rfl, hb⟩
    have HQ := Lib.hid (HQ.out.below hb)
    clear hb
    go_wp2_with fail
    go_ret
    exact ⟨rfl, HQ.out.bel⟩
  have cs := HQ.out.sa.cell
  have ct := HQ.out.sb.cell
  go_wp2_with fail
  obtain ⟨v2, hv2⟩ : ∃ v, fewS m = v := ⟨_, rfl⟩
  have HF2 := Lib.hid hv2
  clear hv2
  refine (few24_any HF2.out re B d p0 p1 p2 _ (HS.out.below HQ.out.bel) hm2).mono ?_; rintro e w2 ⟨rfl, hb⟩
  have HQ := Lib.hid (HQ.out.below hb)
  clear hb cs ct
  cases v2
  · go_wp2_with fail
    refine (awake24_any _).mono ?_; rintro e w9 ⟨rfl, hb⟩
    have HQ := Lib.hid (HQ.out.below hb)
    clear hb
    go_wp2_with fail
    go_ret
    exact ⟨rfl, HQ.out.bel⟩
  have cs := HQ.out.sa.cell
  have ct := HQ.out.sb.cell
  have hl70 : l.length ≤ 70 := (fewS_small HF1.out).1
  have hm70 : m.length ≤ 70 := (fewS_small HF2.out).1
  go_wp2_with fail
  by_cases hHRL : RightS rd l
  rotate_left
  · have HN := Lib.hid hHRL
    clear hHRL
    refine (refStRightV_any (v := false) (RightS.iffNo HN.out) A c o0 o1 o2 _ (HR.out.below HQ.out.bel) HW.out hm).mono ?_; rintro e w3 ⟨rfl, hb⟩
    have HQ := Lib.hid (HQ.out.below hb)
    clear hb cs ct
    go_wp2_with fail
    refine (awake24_any _).mono ?_; rintro e w9 ⟨rfl, hb⟩
    have HQ := Lib.hid (HQ.out.below hb)
    clear hb
    go_wp2_with fail
    go_ret
    exact ⟨rfl, HQ.out.bel⟩
  have HRL := Lib.hid hHRL
  clear hHRL
  refine (refStRightV_any (v := true) (RightS.iffYes HRL.out) A c o0 o1 o2 _ (HR.out.below HQ.out.bel) HW.out hm).mono ?_; rintro e w3 ⟨rfl, hb⟩
  have HQ := Lib.hid (HQ.out.below hb)
  clear hb cs ct
  have cs := HQ.out.sa.cell
  have ct := HQ.out.sb.cell
  go_wp2_with fail
  by_cases hHRM : RightS re m
  rotate_left
  · have HN := Lib.hid hHRM
    clear hHRM
    refine (refStRightV_any (v := false) (RightS.iffNo HN.out) B d p0 p1 p2 _ (HS.out.below HQ.out.bel) HV.out hm2).mono ?_; rintro e w3 ⟨rfl, hb⟩
    have HQ := Lib.hid (HQ.out.below hb)
    clear hb cs ct
    go_wp2_with fail
    refine (awake24_any _).mono ?_; rintro e w9 ⟨rfl, hb⟩
    have HQ := Lib.hid (HQ.out.below hb)
    clear hb
    go_wp2_with fail
    go_ret
    exact ⟨rfl, HQ.out.bel⟩
  have HRM := Lib.hid hHRM
  clear hHRM
  refine (refStRightV_any (v := true) (RightS.iffYes HRM.out) B d p0 p1 p2 _ (HS.out.below HQ.out.bel) HV.out hm2).mono ?_; rintro e w3 ⟨rfl, hb⟩
  have HQ := Lib.hid (HQ.out.below hb)
  clear hb cs ct
  have cs := HQ.out.sa.cell
  have ct := HQ.out.sb.cell
  go_wp2_with fail
  refine (put24_yes rd l HRL.out A c o0 o1 o2 _ (HR.out.below HQ.out.bel) HW.out).mono ?_; rintro x w4 ⟨A1, c1, rfl, ho, hb⟩
  have RB := Lib.hid ho.toRds
  clear ho
  have HQ := Lib.hid (HQ.out.below hb)
  clear hb cs ct
  have cs := HQ.out.sa.cell
  have ct := HQ.out.sb.cell
  go_wp2_with fail
  refine (put24_yes re m HRM.out B d p0 p1 p2 _ (HS.out.below HQ.out.bel) HV.out).mono ?_; rintro x w5 ⟨A2, c2, rfl, ho, hb⟩
  have RB := Lib.hid (RB.out.below hb)
  have RC := Lib.hid ho.toRds
  clear ho
  have HQ := Lib.hid (HQ.out.below hb)
  clear hb cs ct
  obtain ⟨v, hv⟩ : ∃ v, (putS rd o0 o1 o2 l == putS re p0 p1 p2 m) = v := ⟨_, rfl⟩
  have HVS := Lib.hid (unlike_plain HRL.out HRM.out HW.out HV.out hv)
  have HVB := Lib.hid hv
  clear hv
  generalize putS rd o0 o1 o2 l = LB at *
  generalize putS re p0 p1 p2 m = LC at *
  go_wp2_with fail
  have HQ := Lib.hid HQ.out.drew
  have RB := Lib.hid RB.out.drew
  have RC := Lib.hid RC.out.drew
  refine wp_region_held_drew (S := (fun w' => w'.cell? ⟨w.heap.size, 0, none⟩ = some (.int .i64 rd) ∧ w'.cell? ⟨w.heap.size, 1, none⟩ = some (.slice A l.length c) ∧ w'.cell? ⟨w.heap.size, 2, none⟩ = some (.bool o0) ∧ w'.cell? ⟨w.heap.size, 3, none⟩ = some (.bool o1) ∧ w'.cell? ⟨w.heap.size, 4, none⟩ = some (.bool o2) ∧ w'.cell? ⟨w.heap.size + 1, 0, none⟩ = some (.int .i64 re) ∧ w'.cell? ⟨w.heap.size + 1, 1, none⟩ = some (.slice B m.length d) ∧ w'.cell? ⟨w.heap.size + 1, 2, none⟩ = some (.bool p0) ∧ w'.cell? ⟨w.heap.size + 1, 3, none⟩ = some (.bool p1) ∧ w'.cell? ⟨w.heap.size + 1, 4, none⟩ = some (.bool p2))) (by kernel_rfl) (⟨HQ.out.sa.cell 0, HQ.out.sa.cell 1, HQ.out.sa.cell 2, HQ.out.sa.cell 3, HQ.out.sa.cell 4, HQ.out.sb.cell 0, HQ.out.sb.cell 1, HQ.out.sb.cell 2, HQ.out.sb.cell 3, HQ.out.sb.cell 4⟩) (fun hHeld => ?_)
  refine held_take 0 42 (.int .i64 0) rfl rfl (by kernel_rfl) (by kernel_rfl) (by kernel_rfl) (fun _ _ _ h => h) (by rfl) (by intro w' hSw; (try dsimp only at hSw); go_simp; (try (with_reducible rfl))) (by assumption) ?_
  simp only [Act.put, List.setIfInBounds_toArray, List.set_cons_zero, List.set_cons_succ]
  refine held_take 1 43 (.bool true) rfl rfl (by kernel_rfl) (by kernel_rfl) (by kernel_rfl) (fun _ _ _ h => h) (by rfl) (by intro w' hSw; (try dsimp only at hSw); go_simp; (try (with_reducible rfl))) (by assumption) ?_
  simp only [Act.put, List.setIfInBounds_toArray, List.set_cons_zero, List.set_cons_succ]
  refine held_take 2 44 (.bool true) rfl rfl (by kernel_rfl) (by kernel_rfl) (by kernel_rfl) (fun _ _ _ h => h) (by rfl) (by intro w' hSw; (try dsimp only at hSw); go_simp; (try (with_reducible rfl))) (by assumption) ?_
  simp only [Act.put, List.setIfInBounds_toArray, List.set_cons_zero, List.set_cons_succ]
  refine held_take 3 45 (.int .i64 0) rfl rfl (by kernel_rfl) (by kernel_rfl) (by kernel_rfl) (fun _ _ _ h => h) (by rfl) (by intro w' hSw; (try dsimp only at hSw); go_simp; (try (with_reducible rfl))) (by assumption) ?_
  simp only [Act.put, List.setIfInBounds_toArray, List.set_cons_zero, List.set_cons_succ]
  refine held_take 4 46 (.bool true) rfl rfl (by kernel_rfl) (by kernel_rfl) (by kernel_rfl) (fun _ _ _ h => h) (by rfl) (by intro w' hSw; (try dsimp only at hSw); go_simp; (try (with_reducible rfl))) (by assumption) ?_
  simp only [Act.put, List.setIfInBounds_toArray, List.set_cons_zero, List.set_cons_succ]
  refine held_take 5 47 (.bool true) rfl rfl (by kernel_rfl) (by kernel_rfl) (by kernel_rfl) (fun _ _ _ h => h) (by rfl) (by intro w' hSw; (try dsimp only at hSw); go_simp; (try (with_reducible rfl))) (by assumption) ?_
  simp only [Act.put, List.setIfInBounds_toArray, List.set_cons_zero, List.set_cons_succ]
  refine held_take 6 48 (.bool true) rfl rfl (by kernel_rfl) (by kernel_rfl) (by kernel_rfl) (fun _ _ _ h => h) (by rfl) (by intro w' hSw; (try dsimp only at hSw); go_simp; (try (with_reducible rfl))) (by assumption) ?_
  simp only [Act.put, List.setIfInBounds_toArray, List.set_cons_zero, List.set_cons_succ]
  refine held_take 7 49 (.slice A1 LB.length c1) rfl rfl (by kernel_rfl) (by kernel_rfl) (by kernel_rfl) (fun _ _ _ h => h) (by rfl) (by intro w' hSw; (try dsimp only at hSw); go_simp; (try (with_reducible rfl))) (by assumption) ?_
  simp only [Act.put, List.setIfInBounds_toArray, List.set_cons_zero, List.set_cons_succ]
  refine held_take 8 50 (.slice A2 LC.length c2) rfl rfl (by kernel_rfl) (by kernel_rfl) (by kernel_rfl) (fun _ _ _ h => h) (by rfl) (by intro w' hSw; (try dsimp only at hSw); go_simp; (try (with_reducible rfl))) (by assumption) ?_
  simp only [Act.put, List.setIfInBounds_toArray, List.set_cons_zero, List.set_cons_succ]
  refine held_take 10 52 (.agg #[.int .i64 rd, .slice A l.length c, .bool o0, .bool o1, .bool o2]) rfl rfl (by kernel_rfl) (by kernel_rfl) (by kernel_rfl) (fun _ _ _ h => h) (by rfl) (by intro w' hSw; (try dsimp only at hSw); go_simp; (try (with_reducible rfl))) (by assumption) ?_
  simp only [Act.put, List.setIfInBounds_toArray, List.set_cons_zero, List.set_cons_succ]
  refine held_take 11 53 (.agg #[.int .i64 re, .slice B m.length d, .bool p0, .bool p1, .bool p2]) rfl rfl (by kernel_rfl) (by kernel_rfl) (by kernel_rfl) (fun _ _ _ h => h) (by rfl) (by intro w' hSw; (try dsimp only at hSw); go_simp; (try (with_reducible rfl))) (by assumption) ?_
  simp only [Act.put, List.setIfInBounds_toArray, List.set_cons_zero, List.set_cons_succ]
  refine held_call 9 51 rfl rfl (by kernel_rfl) (by rfl) (fun K hK => ?_)
  go_simp
  go_at_call 16; (with_reducible refine (sameB_any HVB.out rfl rfl A1 A2 c1 c2 _ RB.out RC.out).mono ?_); rintro x wq ⟨rfl, hb⟩
  have HQ := Lib.hid (HQ.out.below hb)
  have RB := Lib.hid (RB.out.below hb)
  have RC := Lib.hid (RC.out.below hb)
  clear hb
  refine hK _ _ (⟨HQ.out.sa.cell 0, HQ.out.sa.cell 1, HQ.out.sa.cell 2, HQ.out.sa.cell 3, HQ.out.sa.cell 4, HQ.out.sb.cell 0, HQ.out.sb.cell 1, HQ.out.sb.cell 2, HQ.out.sb.cell 3, HQ.out.sb.cell 4⟩) ?_
  have hHeld := (show wq.cell? ⟨w.heap.size, 0, none⟩ = some (.int .i64 rd) ∧ wq.cell? ⟨w.heap.size, 1, none⟩ = some (.slice A l.length c) ∧ wq.cell? ⟨w.heap.size, 2, none⟩ = some (.bool o0) ∧ wq.cell? ⟨w.heap.size, 3, none⟩ = some (.bool o1) ∧ wq.cell? ⟨w.heap.size, 4, none⟩ = some (.bool o2) ∧ wq.cell? ⟨w.heap.size + 1, 0, none⟩ = some (.int .i64 re) ∧ wq.cell? ⟨w.heap.size + 1, 1, none⟩ = some (.slice B m.length d) ∧ wq.cell? ⟨w.heap.size + 1, 2, none⟩ = some (.bool p0) ∧ wq.cell? ⟨w.heap.size + 1, 3, none⟩ = some (.bool p1) ∧ wq.cell? ⟨w.heap.size + 1, 4, none⟩ = some (.bool p2) from ⟨HQ.out.sa.cell 0, HQ.out.sa.cell 1, HQ.out.sa.cell 2, HQ.out.sa.cell 3, HQ.out.sa.cell 4, HQ.out.sb.cell 0, HQ.out.sb.cell 1, HQ.out.sb.cell 2, HQ.out.sb.cell 3, HQ.out.sb.cell 4⟩)
  clear hK K
  simp only [Act.put, List.setIfInBounds_toArray, List.set_cons_zero, List.set_cons_succ]
  refine held_call 12 54 rfl rfl (by kernel_rfl) (by rfl) (fun K hK => ?_)
  go_simp
  go_at_call 20; (with_reducible refine (same24V HVS.out rfl rfl A B c d _ (HR.out.below HQ.out.bel) (HS.out.below HQ.out.bel) (by omega)).mono ?_); rintro x wq ⟨rfl, hb⟩
  have HQ := Lib.hid (HQ.out.below hb)
  have RB := Lib.hid (RB.out.below hb)
  have RC := Lib.hid (RC.out.below hb)
  clear hb
  refine hK _ _ (⟨HQ.out.sa.cell 0, HQ.out.sa.cell 1, HQ.out.sa.cell 2, HQ.out.sa.cell 3, HQ.out.sa.cell 4, HQ.out.sb.cell 0, HQ.out.sb.cell 1, HQ.out.sb.cell 2, HQ.out.sb.cell 3, HQ.out.sb.cell 4⟩) ?_
  have hHeld := (show wq.cell? ⟨w.heap.size, 0, none⟩ = some (.int .i64 rd) ∧ wq.cell? ⟨w.heap.size, 1, none⟩ = some (.slice A l.length c) ∧ wq.cell? ⟨w.heap.size, 2, none⟩ = some (.bool o0) ∧ wq.cell? ⟨w.heap.size, 3, none⟩ = some (.bool o1) ∧ wq.cell? ⟨w.heap.size, 4, none⟩ = some (.bool o2) ∧ wq.cell? ⟨w.heap.size + 1, 0, none⟩ = some (.int .i64 re) ∧ wq.cell? ⟨w.heap.size + 1, 1, none⟩ = some (.slice B m.length d) ∧ wq.cell? ⟨w.heap.size + 1, 2, none⟩ = some (.bool p0) ∧ wq.cell? ⟨w.heap.size + 1, 3, none⟩ = some (.bool p1) ∧ wq.cell? ⟨w.heap.size + 1, 4, none⟩ = some (.bool p2) from ⟨HQ.out.sa.cell 0, HQ.out.sa.cell 1, HQ.out.sa.cell 2, HQ.out.sa.cell 3, HQ.out.sa.cell 4, HQ.out.sb.cell 0, HQ.out.sb.cell 1, HQ.out.sb.cell 2, HQ.out.sb.cell 3, HQ.out.sb.cell 4⟩)
  clear hK K
  simp only [Act.put, List.setIfInBounds_toArray, List.set_cons_zero, List.set_cons_succ]
  refine held_take 13 55 (.bool true) rfl rfl (by kernel_rfl) (by kernel_rfl) (by kernel_rfl) (fun _ _ _ h => h) (by rfl) (by intro w' hSw; (try dsimp only at hSw); go_simp; (first | done | with_reducible rfl | (cases v <;> rfl))) (by assumption) ?_
  simp only [Act.put, List.setIfInBounds_toArray, List.set_cons_zero, List.set_cons_succ]
  refine held_take 14 56 (.bool true) rfl rfl (by kernel_rfl) (by kernel_rfl) (by kernel_rfl) (fun _ _ _ h => h) (by rfl) (by intro w' hSw; (try dsimp only at hSw); go_simp; (try (with_reducible rfl))) (by assumption) ?_
  simp only [Act.put, List.setIfInBounds_toArray, List.set_cons_zero, List.set_cons_succ]
  refine held_take 15 4 (.bool true) rfl rfl (by kernel_rfl) (by kernel_rfl) (by kernel_rfl) (fun _ _ _ h => h) (by rfl) (by intro w' hSw; (try dsimp only at hSw); go_simp; (try (with_reducible rfl))) (by assumption) ?_
  simp only [Act.put, List.setIfInBounds_toArray, List.set_cons_zero, List.set_cons_succ]
  refine wpAnyH_done (by kernel_rfl) ?_ _
  clear hHeld
  go_wp2_with fail
  go_ret
  exact ⟨rfl, HQ.out.bel⟩
end Go.Proofs.YtakgblgbfbpmoaaDoor
