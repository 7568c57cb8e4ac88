/- bilgelaw24.StatePuts: of whatever state: whether it is right; its bytes, or that it has none. -/
import Derived.Test.YtakgblgbfbpmoaaDoorMV
import Derived.Test.YtakgblgbfbpmoaaDoorStB
import Derived.Test.YtakgblgbfbpmoaaDoorStRefPut
namespace Go.Proofs.YtakgblgbfbpmoaaDoor
open Go.RowKit

set_option maxRecDepth 100000 in
set_option maxHeartbeats 16000000 in
theorem statePuts_any (rd : Int) (l : List En) (A : Option Addr) (c : Nat) (o0 o1 o2 : Bool) (w : World) (hr : Rds w encN A l) (hw : ∀ x ∈ l, x.pod.Wf ∧ I64 x.phase) (hm : l.length ≤ 9223372036854775807) :
    Calls Tryd.prog 3 #[.agg #[.int .i64 rd, .slice A l.length c, .bool o0, .bool o1, .bool o2]] w fun e w' => e = .returned (.bool true) ∧ Below w.heap.size w w' := by
  have mixed : Tryd.prog.follows Departure.mixedOrders = true := by kernel_rfl
  have HQ := Lib.hid (SQ.new rd A l c o0 o1 o2 w)
  have HR := Lib.hid hr
  have HW := Lib.hid (show ∀ x ∈ l, x.pod.Wf from fun x hx => (hw x hx).1)
  clear hr hw
  go_enter Tryd.func3, Tryd.ntmps3
  go_wp2_with fail
  refine (awake24_any _).mono ?_; rintro e w1 ⟨rfl, hb⟩
  have HQ := Lib.hid (HQ.out.below hb)
  clear hb
  have cs := HQ.out.sb.cell
  go_wp2_with fail
  obtain ⟨v1, hv1⟩ : ∃ v, fewS l = v := ⟨_, rfl⟩
  have HFW := Lib.hid hv1
  clear hv1
  refine (few24_any HFW.out rd A c o0 o1 o2 _ (HR.out.below HQ.out.bel) hm).mono ?_; rintro e w2 ⟨rfl, hb⟩
  have HQ := Lib.hid (HQ.out.below hb)
  clear hb cs
  cases v1
  · go_wp2_with fail
    refine (awake24_any _).mono ?_; rintro e w9 ⟨rfl, hb⟩
    have HQ := Lib.hid (HQ.out.below hb)
    clear hb
    go_wp2_with fail
    go_ret
    exact ⟨rfl, HQ.out.bel⟩
  have hl70 : l.length ≤ 70 := (fewS_small HFW.out).1
  have cs := HQ.out.sb.cell
  by_cases hR : RightS rd l
  · have HRS := Lib.hid hR
    clear hR
    have HPT := Lib.hid (fun (w : World) hr => ref24Put_any rd l HRS.out A c o0 o1 o2 w hr HW.out)
    go_wp2_with fail
    refine (put24_yes rd l HRS.out A c o0 o1 o2 _ (HR.out.below HQ.out.bel) HW.out).mono ?_; rintro x w3 ⟨A1, c1, rfl, ho, hb⟩
    have HQ := Lib.hid (HQ.out.below hb)
    have RB := Lib.hid ho.toRds
    clear ho hb cs
    generalize putS rd o0 o1 o2 l = L at *
    go_wp2_with fail
    have HQ := Lib.hid HQ.out.drew
    have RB := Lib.hid RB.out.drew
    refine wp_region_held_drew (S := (fun w' => w'.cell? ⟨w.heap.size, 0, none⟩ = some (.int .i64 rd) ∧ w'.cell? ⟨w.heap.size, 1, none⟩ = some (.slice A l.length c) ∧ w'.cell? ⟨w.heap.size, 2, none⟩ = some (.bool o0) ∧ w'.cell? ⟨w.heap.size, 3, none⟩ = some (.bool o1) ∧ w'.cell? ⟨w.heap.size, 4, none⟩ = some (.bool o2))) (by kernel_rfl) (⟨HQ.out.sb.cell 0, HQ.out.sb.cell 1, HQ.out.sb.cell 2, HQ.out.sb.cell 3, HQ.out.sb.cell 4⟩) (fun hHeld => ?_)
    refine held_take 0 18 (.agg #[.int .i64 rd, .slice A l.length c, .bool o0, .bool o1, .bool o2]) rfl rfl (by kernel_rfl) (by kernel_rfl) (by kernel_rfl) (fun _ _ _ h => h) (by rfl) (by intro w' hSw; (try dsimp only at hSw); go_simp; (try (with_reducible rfl))) (by assumption) ?_
    simp only [Act.put, List.setIfInBounds_toArray, List.set_cons_zero, List.set_cons_succ]
    refine held_take 2 20 (.agg #[.int .i64 rd, .slice A l.length c, .bool o0, .bool o1, .bool o2]) rfl rfl (by kernel_rfl) (by kernel_rfl) (by kernel_rfl) (fun _ _ _ h => h) (by rfl) (by intro w' hSw; (try dsimp only at hSw); go_simp; (try (with_reducible rfl))) (by assumption) ?_
    simp only [Act.put, List.setIfInBounds_toArray, List.set_cons_zero, List.set_cons_succ]
    refine held_call 1 19 rfl rfl (by kernel_rfl) (by rfl) (fun K hK => ?_)
    go_simp
    go_at_call 14; (with_reducible refine (stRightV_any (v := true) (RightS.iffYes HRS.out) A c o0 o1 o2 _ (HR.out.below HQ.out.bel) HW.out hm).mono ?_); rintro x wq ⟨rfl, hb⟩
    have HQ := Lib.hid (HQ.out.below hb)
    have RB := Lib.hid (RB.out.below hb)
    clear hb
    refine hK _ _ (⟨HQ.out.sb.cell 0, HQ.out.sb.cell 1, HQ.out.sb.cell 2, HQ.out.sb.cell 3, HQ.out.sb.cell 4⟩) ?_
    have hHeld := (show wq.cell? ⟨w.heap.size, 0, none⟩ = some (.int .i64 rd) ∧ wq.cell? ⟨w.heap.size, 1, none⟩ = some (.slice A l.length c) ∧ wq.cell? ⟨w.heap.size, 2, none⟩ = some (.bool o0) ∧ wq.cell? ⟨w.heap.size, 3, none⟩ = some (.bool o1) ∧ wq.cell? ⟨w.heap.size, 4, none⟩ = some (.bool o2) from ⟨HQ.out.sb.cell 0, HQ.out.sb.cell 1, HQ.out.sb.cell 2, HQ.out.sb.cell 3, HQ.out.sb.cell 4⟩)
    clear hK K
    simp only [Act.put, List.setIfInBounds_toArray, List.set_cons_zero, List.set_cons_succ]
    refine held_call 3 21 rfl rfl (by kernel_rfl) (by rfl) (fun K hK => ?_)
    go_simp
    go_at_call 15; (with_reducible refine (refStRightV_any (v := true) (RightS.iffYes HRS.out) A c o0 o1 o2 _ (HR.out.below HQ.out.bel) HW.out hm).mono ?_); rintro x wq ⟨rfl, hb⟩
    have HQ := Lib.hid (HQ.out.below hb)
    have RB := Lib.hid (RB.out.below hb)
    clear hb
    refine hK _ _ (⟨HQ.out.sb.cell 0, HQ.out.sb.cell 1, HQ.out.sb.cell 2, HQ.out.sb.cell 3, HQ.out.sb.cell 4⟩) ?_
    have hHeld := (show wq.cell? ⟨w.heap.size, 0, none⟩ = some (.int .i64 rd) ∧ wq.cell? ⟨w.heap.size, 1, none⟩ = some (.slice A l.length c) ∧ wq.cell? ⟨w.heap.size, 2, none⟩ = some (.bool o0) ∧ wq.cell? ⟨w.heap.size, 3, none⟩ = some (.bool o1) ∧ wq.cell? ⟨w.heap.size, 4, none⟩ = some (.bool o2) from ⟨HQ.out.sb.cell 0, HQ.out.sb.cell 1, HQ.out.sb.cell 2, HQ.out.sb.cell 3, HQ.out.sb.cell 4⟩)
    clear hK K
    simp only [Act.put, List.setIfInBounds_toArray, List.set_cons_zero, List.set_cons_succ]
    refine held_take 4 22 (.bool false) rfl rfl (by kernel_rfl) (by kernel_rfl) (by kernel_rfl) (fun _ _ _ h => h) (by rfl) (by intro w' hSw; (try dsimp only at hSw); go_simp; (try (with_reducible rfl))) (by assumption) ?_
    simp only [Act.put, List.setIfInBounds_toArray, List.set_cons_zero, List.set_cons_succ]
    refine wpAnyH_done (by kernel_rfl) ?_ _
    clear hHeld
    have cs := HQ.out.sb.cell
    go_wp2_with fail
    refine (refStRightV_any (v := true) (RightS.iffYes HRS.out) A c o0 o1 o2 _ (HR.out.below HQ.out.bel) HW.out hm).mono ?_; rintro x w6 ⟨rfl, hb⟩
    have HQ := Lib.hid (HQ.out.below hb)
    have RB := Lib.hid (RB.out.below hb)
    clear hb cs
    have cs := HQ.out.sb.cell
    go_wp2_with fail
    refine (HPT.out _ (HR.out.below HQ.out.bel)).mono ?_; rintro x w7 ⟨A2, c2, rfl, ho, hb⟩
    have HQ := Lib.hid (HQ.out.below hb)
    have RB := Lib.hid (RB.out.below hb)
    have RC := Lib.hid ho.toRds
    clear ho hb cs
    go_wp2_with fail
    refine (sameB_any (v := true) (by simp) rfl rfl A1 A2 c1 c2 _ RB.out RC.out).mono ?_; rintro x w8 ⟨rfl, hb⟩
    have HQ := Lib.hid (HQ.out.below hb)
    clear hb
    go_wp2_with fail
    go_ret
    exact ⟨rfl, HQ.out.bel⟩
  · have HRS := Lib.hid hR
    clear hR
    go_wp2_with fail
    refine (put24_no rd l HRS.out A c o0 o1 o2 _ (HR.out.below HQ.out.bel) HW.out hm).mono ?_; rintro x w3 ⟨rfl, hb⟩
    have HQ := Lib.hid (HQ.out.below hb)
    clear hb cs
    go_wp2_with fail
    have HQ := Lib.hid HQ.out.drew
    refine wp_region_held_drew (S := (fun w' => w'.cell? ⟨w.heap.size, 0, none⟩ = some (.int .i64 rd) ∧ w'.cell? ⟨w.heap.size, 1, none⟩ = some (.slice A l.length c) ∧ w'.cell? ⟨w.heap.size, 2, none⟩ = some (.bool o0) ∧ w'.cell? ⟨w.heap.size, 3, none⟩ = some (.bool o1) ∧ w'.cell? ⟨w.heap.size, 4, none⟩ = some (.bool o2))) (by kernel_rfl) (⟨HQ.out.sb.cell 0, HQ.out.sb.cell 1, HQ.out.sb.cell 2, HQ.out.sb.cell 3, HQ.out.sb.cell 4⟩) (fun hHeld => ?_)
    refine held_take 0 18 (.agg #[.int .i64 rd, .slice A l.length c, .bool o0, .bool o1, .bool o2]) rfl rfl (by kernel_rfl) (by kernel_rfl) (by kernel_rfl) (fun _ _ _ h => h) (by rfl) (by intro w' hSw; (try dsimp only at hSw); go_simp; (try (with_reducible rfl))) (by assumption) ?_
    simp only [Act.put, List.setIfInBounds_toArray, List.set_cons_zero, List.set_cons_succ]
    refine held_take 2 20 (.agg #[.int .i64 rd, .slice A l.length c, .bool o0, .bool o1, .bool o2]) rfl rfl (by kernel_rfl) (by kernel_rfl) (by kernel_rfl) (fun _ _ _ h => h) (by rfl) (by intro w' hSw; (try dsimp only at hSw); go_simp; (try (with_reducible rfl))) (by assumption) ?_
    simp only [Act.put, List.setIfInBounds_toArray, List.set_cons_zero, List.set_cons_succ]
    refine held_call 1 19 rfl rfl (by kernel_rfl) (by rfl) (fun K hK => ?_)
    go_simp
    go_at_call 14; (with_reducible refine (stRightV_any (v := false) (RightS.iffNo HRS.out) A c o0 o1 o2 _ (HR.out.below HQ.out.bel) HW.out hm).mono ?_); rintro x wq ⟨rfl, hb⟩
    have HQ := Lib.hid (HQ.out.below hb)
    clear hb
    refine hK _ _ (⟨HQ.out.sb.cell 0, HQ.out.sb.cell 1, HQ.out.sb.cell 2, HQ.out.sb.cell 3, HQ.out.sb.cell 4⟩) ?_
    have hHeld := (show wq.cell? ⟨w.heap.size, 0, none⟩ = some (.int .i64 rd) ∧ wq.cell? ⟨w.heap.size, 1, none⟩ = some (.slice A l.length c) ∧ wq.cell? ⟨w.heap.size, 2, none⟩ = some (.bool o0) ∧ wq.cell? ⟨w.heap.size, 3, none⟩ = some (.bool o1) ∧ wq.cell? ⟨w.heap.size, 4, none⟩ = some (.bool o2) from ⟨HQ.out.sb.cell 0, HQ.out.sb.cell 1, HQ.out.sb.cell 2, HQ.out.sb.cell 3, HQ.out.sb.cell 4⟩)
    clear hK K
    simp only [Act.put, List.setIfInBounds_toArray, List.set_cons_zero, List.set_cons_succ]
    refine held_call 3 21 rfl rfl (by kernel_rfl) (by rfl) (fun K hK => ?_)
    go_simp
    go_at_call 15; (with_reducible refine (refStRightV_any (v := false) (RightS.iffNo HRS.out) A c o0 o1 o2 _ (HR.out.below HQ.out.bel) HW.out hm).mono ?_); rintro x wq ⟨rfl, hb⟩
    have HQ := Lib.hid (HQ.out.below hb)
    clear hb
    refine hK _ _ (⟨HQ.out.sb.cell 0, HQ.out.sb.cell 1, HQ.out.sb.cell 2, HQ.out.sb.cell 3, HQ.out.sb.cell 4⟩) ?_
    have hHeld := (show wq.cell? ⟨w.heap.size, 0, none⟩ = some (.int .i64 rd) ∧ wq.cell? ⟨w.heap.size, 1, none⟩ = some (.slice A l.length c) ∧ wq.cell? ⟨w.heap.size, 2, none⟩ = some (.bool o0) ∧ wq.cell? ⟨w.heap.size, 3, none⟩ = some (.bool o1) ∧ wq.cell? ⟨w.heap.size, 4, none⟩ = some (.bool o2) from ⟨HQ.out.sb.cell 0, HQ.out.sb.cell 1, HQ.out.sb.cell 2, HQ.out.sb.cell 3, HQ.out.sb.cell 4⟩)
    clear hK K
    simp only [Act.put, List.setIfInBounds_toArray, List.set_cons_zero, List.set_cons_succ]
    refine held_take 4 22 (.bool false) rfl rfl (by kernel_rfl) (by kernel_rfl) (by kernel_rfl) (fun _ _ _ h => h) (by rfl) (by intro w' hSw; (try dsimp only at hSw); go_simp; (try (with_reducible rfl))) (by assumption) ?_
    simp only [Act.put, List.setIfInBounds_toArray, List.set_cons_zero, List.set_cons_succ]
    refine wpAnyH_done (by kernel_rfl) ?_ _
    clear hHeld
    have cs := HQ.out.sb.cell
    go_wp2_with fail
    refine (refStRightV_any (v := false) (RightS.iffNo HRS.out) A c o0 o1 o2 _ (HR.out.below HQ.out.bel) HW.out hm).mono ?_; rintro x w6 ⟨rfl, hb⟩
    have HQ := Lib.hid (HQ.out.below hb)
    clear hb cs
    go_wp2_with fail
    go_ret
    exact ⟨rfl, HQ.out.bel⟩
end Go.Proofs.YtakgblgbfbpmoaaDoor
