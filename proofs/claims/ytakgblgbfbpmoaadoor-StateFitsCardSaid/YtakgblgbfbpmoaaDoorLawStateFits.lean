/- bilgelaw24.StateFits: a state fits just if the exact sums of what its pods ask for, in whatever phase, are at most Allocatable, and below the greatest number. -/
import Derived.Test.YtakgblgbfbpmoaaDoorMV
namespace Go.Proofs.YtakgblgbfbpmoaaDoor
open Go.RowKit

theorem withinV {room : S3} {L : List Pd} {v : Bool} (hv : fitsB room L = v) {A : Option Addr} {c n : Nat} (hn : n = L.length) {w : World} (hr : Rds w encP A L) (hl : L.length ≤ 64) (hq : ∀ x ∈ L, x.Wf ∧ x.right = true) (ha : 0 ≤ room.a ∧ room.a ≤ 9223372036854775807) (hb : 0 ≤ room.b ∧ room.b ≤ 9223372036854775807) (hc : 0 ≤ room.c ∧ room.c ≤ 9223372036854775807) :
    Calls Tryd.prog 31 #[.agg #[.int .i64 room.a, .int .i64 room.b, .int .i64 room.c], .slice A n c] w fun e w' => e = .returned (.bool v) ∧ Below w.heap.size w w' := by
  subst hn; subst hv; exact within_any room L A c w hr hl hq ha hb hc
set_option maxRecDepth 100000 in
set_option maxHeartbeats 16000000 in
theorem stateFits_any (f : Cf) (rd : Int) (l : List En) (A : Option Addr) (c : Nat) (o0 o1 o2 : Bool) (w : World) (hr : Rds w encN A l) (hw : ∀ x ∈ l, x.pod.Wf ∧ I64 x.phase) (hm : l.length ≤ 9223372036854775807) (hrt : Rds w encT f.A f.ts) (hnt : f.ts.length ≤ 9223372036854775807) (hra : I64 f.room.a) (hrb : I64 f.room.b) (hrc : I64 f.room.c) :
    Calls Tryd.prog 9 #[.agg #[.int .i64 rd, .slice A l.length c, .bool o0, .bool o1, .bool o2], .agg f.cells] w fun e w' => e = .returned (.bool true) ∧ Below w.heap.size w w' := by
  have mixed : Tryd.prog.follows Departure.mixedOrders = true := by kernel_rfl
  have HQ := Lib.hid (FitQ.new f rd A l.length c o0 o1 o2 w)
  have HR := Lib.hid hr
  have HWE := Lib.hid hw
  have HW := Lib.hid (show ∀ x ∈ l, x.pod.Wf from fun x hx => (hw x hx).1)
  have HRT := Lib.hid hrt
  have HRB := Lib.hid (And.intro hra.2 (And.intro hrb.2 hrc.2))
  clear hrt hra hrb hrc
  clear hr hw
  go_enter Tryd.func9, Tryd.ntmps9
  go_wp2_with fail
  refine (awake24_any _).mono ?_; rintro e w1 ⟨rfl, hb⟩
  have HQ := Lib.hid (HQ.out.below hb)
  clear hb
  have cs := HQ.out.sb.cell
  go_wp2_with fail
  obtain ⟨v1, hv1⟩ : ∃ v, fewS l = v := ⟨_, rfl⟩
  have HFW := Lib.hid hv1
  clear hv1
  refine (few24_any HFW.out rd A c o0 o1 o2 _ (HR.out.below HQ.out.bel) hm).mono ?_; rintro e w2 ⟨rfl, hb⟩
  have HQ := Lib.hid (HQ.out.below hb)
  clear hb cs
  cases v1
  · go_wp2_with fail
    refine (awake24_any _).mono ?_; rintro e w9 ⟨rfl, hb⟩
    have HQ := Lib.hid (HQ.out.below hb)
    clear hb
    go_wp2_with fail
    go_ret
    exact ⟨rfl, HQ.out.bel⟩
  have hl70 : l.length ≤ 70 := (fewS_small HFW.out).1
  have cs := HQ.out.sb.cell
  go_wp2_with fail
  by_cases hR : RightS rd l
  rotate_left
  · have HN := Lib.hid hR
    clear hR
    refine (refStRightV_any (v := false) (RightS.iffNo HN.out) A c o0 o1 o2 _ (HR.out.below HQ.out.bel) HW.out hm).mono ?_; rintro e w3 ⟨rfl, hb⟩
    have HQ := Lib.hid (HQ.out.below hb)
    clear hb cs
    go_wp2_with fail
    refine (awake24_any _).mono ?_; rintro e w9 ⟨rfl, hb⟩
    have HQ := Lib.hid (HQ.out.below hb)
    clear hb
    go_wp2_with fail
    go_ret
    exact ⟨rfl, HQ.out.bel⟩
  have HRS := Lib.hid hR
  clear hR
  refine (refStRightV_any (v := true) (RightS.iffYes HRS.out) A c o0 o1 o2 _ (HR.out.below HQ.out.bel) HW.out hm).mono ?_; rintro e w3 ⟨rfl, hb⟩
  have HQ := Lib.hid (HQ.out.below hb)
  have HSO := Lib.hid HRS.out.sorted
  clear hb cs
  have ccf := HQ.out.cf.cell
  go_wp2_with fail
  refine (right07_any f _ (HRT.out.below HQ.out.bel) hnt).mono ?_; rintro e w4 ⟨v4, rfl, hv4, hb⟩
  have HQ := Lib.hid (HQ.out.below hb)
  have HV4 := Lib.hid hv4
  clear hb hv4 ccf
  cases v4
  · go_wp2_with fail
    refine (awake24_any _).mono ?_; rintro e w9 ⟨rfl, hb⟩
    have HQ := Lib.hid (HQ.out.below hb)
    clear hb
    go_wp2_with fail
    go_ret
    exact ⟨rfl, HQ.out.bel⟩
  have hr0 : Room0 f := HV4.out rfl
  have HRM := Lib.hid (show (0 ≤ f.room.a ∧ f.room.a ≤ 9223372036854775807) ∧ (0 ≤ f.room.b ∧ f.room.b ≤ 9223372036854775807) ∧ (0 ≤ f.room.c ∧ f.room.c ≤ 9223372036854775807) from ⟨⟨hr0.1, HRB.out.1⟩, ⟨hr0.2.1, HRB.out.2.1⟩, ⟨hr0.2.2, HRB.out.2.2⟩⟩)
  have HPL := Lib.hid (show (podsD l).length ≤ 64 by rw [podsD_len]; exact HRS.out.len)
  have HPW := Lib.hid (show ∀ x ∈ podsD l, x.Wf ∧ x.right = true from fun x hx => by
    obtain ⟨y, hy, e⟩ := List.mem_map.1 hx
    rw [← e]; exact ⟨HW.out y hy, (HRS.out.each y hy).1⟩)
  obtain ⟨v, hv⟩ : ∃ v, fitsB f.room (podsD l) = v := ⟨_, rfl⟩
  have HV := Lib.hid hv
  clear hv hr0 HV4
  go_wp2_with fail
  have HQ := Lib.hid HQ.out.drew
  refine wp_region_held_drew (S := (fun w' => w'.cell? ⟨w.heap.size, 0, none⟩ = some (.int .i64 rd) ∧ w'.cell? ⟨w.heap.size, 1, none⟩ = some (.slice A l.length c) ∧ w'.cell? ⟨w.heap.size, 2, none⟩ = some (.bool o0) ∧ w'.cell? ⟨w.heap.size, 3, none⟩ = some (.bool o1) ∧ w'.cell? ⟨w.heap.size, 4, none⟩ = some (.bool o2) ∧ w'.cell? ⟨w.heap.size + 1, 0, none⟩ = some (.int .i64 f.cap.a) ∧ w'.cell? ⟨w.heap.size + 1, 1, none⟩ = some (.int .i64 f.cap.b) ∧ w'.cell? ⟨w.heap.size + 1, 2, none⟩ = some (.int .i64 f.cap.c) ∧ w'.cell? ⟨w.heap.size + 1, 3, none⟩ = some (.int .i64 f.room.a) ∧ w'.cell? ⟨w.heap.size + 1, 4, none⟩ = some (.int .i64 f.room.b) ∧ w'.cell? ⟨w.heap.size + 1, 5, none⟩ = some (.int .i64 f.room.c) ∧ w'.cell? ⟨w.heap.size + 1, 6, none⟩ = some (.slice f.A f.ts.length f.n) ∧ w'.cell? ⟨w.heap.size + 1, 7, none⟩ = some (.int .i64 f.per) ∧ w'.cell? ⟨w.heap.size + 1, 8, none⟩ = some (.int .i64 f.ret) ∧ w'.cell? ⟨w.heap.size + 1, 9, none⟩ = some (.int .i64 f.age) ∧ w'.cell? ⟨w.heap.size + 1, 10, none⟩ = some (.int .i64 f.dead))) (by kernel_rfl) (⟨HQ.out.sb.cell 0, HQ.out.sb.cell 1, HQ.out.sb.cell 2, HQ.out.sb.cell 3, HQ.out.sb.cell 4, HQ.out.cf.cell 0, HQ.out.cf.cell 1, HQ.out.cf.cell 2, HQ.out.cf.cell 3, HQ.out.cf.cell 4, HQ.out.cf.cell 5, HQ.out.cf.cell 6, HQ.out.cf.cell 7, HQ.out.cf.cell 8, HQ.out.cf.cell 9, HQ.out.cf.cell 10⟩) (fun hHeld => ?_)
  refine held_take 0 23 (.agg #[.int .i64 rd, .slice A l.length c, .bool o0, .bool o1, .bool o2]) rfl rfl (by kernel_rfl) (by kernel_rfl) (by kernel_rfl) (fun _ _ _ h => h) (by rfl) (by intro w' hSw; (try dsimp only at hSw); go_simp; (try (with_reducible rfl))) (by assumption) ?_
  simp only [Act.put, List.setIfInBounds_toArray, List.set_cons_zero, List.set_cons_succ]
  refine held_take 1 24 (.agg #[.int .i64 f.cap.a, .int .i64 f.cap.b, .int .i64 f.cap.c, .int .i64 f.room.a, .int .i64 f.room.b, .int .i64 f.room.c, .slice f.A f.ts.length f.n, .int .i64 f.per, .int .i64 f.ret, .int .i64 f.age, .int .i64 f.dead]) rfl rfl (by kernel_rfl) (by kernel_rfl) (by kernel_rfl) (fun _ _ _ h => h) (by rfl) (by intro w' hSw; (try dsimp only at hSw); go_simp; (try (with_reducible rfl))) (by assumption) ?_
  simp only [Act.put, List.setIfInBounds_toArray, List.set_cons_zero, List.set_cons_succ]
  refine held_take 3 26 (.pointer (some ⟨w.heap.size + 1, 3, none⟩)) rfl rfl (by kernel_rfl) (by kernel_rfl) (by kernel_rfl) (fun _ _ _ h => h) (by rfl) (by intro w' hSw; (try dsimp only at hSw); go_simp; (try (with_reducible rfl))) (by assumption) ?_
  simp only [Act.put, List.setIfInBounds_toArray, List.set_cons_zero, List.set_cons_succ]
  refine held_take 4 27 (.agg #[.int .i64 f.room.a, .int .i64 f.room.b, .int .i64 f.room.c]) rfl rfl (by kernel_rfl) (by kernel_rfl) (by kernel_rfl) (fun _ _ _ h => h) (by rfl) (by intro w' hSw; (try dsimp only at hSw); go_simp; (try (with_reducible rfl))) (by assumption) ?_
  simp only [Act.put, List.setIfInBounds_toArray, List.set_cons_zero, List.set_cons_succ]
  refine held_take 5 28 (.pointer (some ⟨w.heap.size, 1, none⟩)) rfl rfl (by kernel_rfl) (by kernel_rfl) (by kernel_rfl) (fun _ _ _ h => h) (by rfl) (by intro w' hSw; (try dsimp only at hSw); go_simp; (try (with_reducible rfl))) (by assumption) ?_
  simp only [Act.put, List.setIfInBounds_toArray, List.set_cons_zero, List.set_cons_succ]
  refine held_take 6 29 (.slice A l.length c) rfl rfl (by kernel_rfl) (by kernel_rfl) (by kernel_rfl) (fun _ _ _ h => h) (by rfl) (by intro w' hSw; (try dsimp only at hSw); go_simp; (try (with_reducible rfl))) (by assumption) ?_
  simp only [Act.put, List.setIfInBounds_toArray, List.set_cons_zero, List.set_cons_succ]
  refine held_call 2 25 rfl rfl (by kernel_rfl) (by rfl) (fun K hK => ?_)
  go_simp
  go_at_call 30; (with_reducible refine (stFits_any (f := f) HV.out rd A c o0 o1 o2 _ (HR.out.below HQ.out.bel) HW.out (by omega)).mono ?_); rintro e w5 ⟨rfl, hb⟩
  have HQ := Lib.hid (HQ.out.below hb)
  clear hb
  refine hK _ _ (⟨HQ.out.sb.cell 0, HQ.out.sb.cell 1, HQ.out.sb.cell 2, HQ.out.sb.cell 3, HQ.out.sb.cell 4, HQ.out.cf.cell 0, HQ.out.cf.cell 1, HQ.out.cf.cell 2, HQ.out.cf.cell 3, HQ.out.cf.cell 4, HQ.out.cf.cell 5, HQ.out.cf.cell 6, HQ.out.cf.cell 7, HQ.out.cf.cell 8, HQ.out.cf.cell 9, HQ.out.cf.cell 10⟩) ?_
  have hHeld := (show w5.cell? ⟨w.heap.size, 0, none⟩ = some (.int .i64 rd) ∧ w5.cell? ⟨w.heap.size, 1, none⟩ = some (.slice A l.length c) ∧ w5.cell? ⟨w.heap.size, 2, none⟩ = some (.bool o0) ∧ w5.cell? ⟨w.heap.size, 3, none⟩ = some (.bool o1) ∧ w5.cell? ⟨w.heap.size, 4, none⟩ = some (.bool o2) ∧ w5.cell? ⟨w.heap.size + 1, 0, none⟩ = some (.int .i64 f.cap.a) ∧ w5.cell? ⟨w.heap.size + 1, 1, none⟩ = some (.int .i64 f.cap.b) ∧ w5.cell? ⟨w.heap.size + 1, 2, none⟩ = some (.int .i64 f.cap.c) ∧ w5.cell? ⟨w.heap.size + 1, 3, none⟩ = some (.int .i64 f.room.a) ∧ w5.cell? ⟨w.heap.size + 1, 4, none⟩ = some (.int .i64 f.room.b) ∧ w5.cell? ⟨w.heap.size + 1, 5, none⟩ = some (.int .i64 f.room.c) ∧ w5.cell? ⟨w.heap.size + 1, 6, none⟩ = some (.slice f.A f.ts.length f.n) ∧ w5.cell? ⟨w.heap.size + 1, 7, none⟩ = some (.int .i64 f.per) ∧ w5.cell? ⟨w.heap.size + 1, 8, none⟩ = some (.int .i64 f.ret) ∧ w5.cell? ⟨w.heap.size + 1, 9, none⟩ = some (.int .i64 f.age) ∧ w5.cell? ⟨w.heap.size + 1, 10, none⟩ = some (.int .i64 f.dead) from ⟨HQ.out.sb.cell 0, HQ.out.sb.cell 1, HQ.out.sb.cell 2, HQ.out.sb.cell 3, HQ.out.sb.cell 4, HQ.out.cf.cell 0, HQ.out.cf.cell 1, HQ.out.cf.cell 2, HQ.out.cf.cell 3, HQ.out.cf.cell 4, HQ.out.cf.cell 5, HQ.out.cf.cell 6, HQ.out.cf.cell 7, HQ.out.cf.cell 8, HQ.out.cf.cell 9, HQ.out.cf.cell 10⟩)
  clear hK K
  simp only [Act.put, List.setIfInBounds_toArray, List.set_cons_zero, List.set_cons_succ]
  refine held_call 7 30 rfl rfl (by kernel_rfl) (by rfl) (fun K hK => ?_)
  go_simp
  go_at_call 32; (with_reducible refine (pods_any l A c _ (HR.out.below HQ.out.bel) (by omega)).mono ?_); rintro e w6 ⟨A6, c6, rfl, ho, hb⟩
  have HQ := Lib.hid (HQ.out.below hb)
  have HRP := Lib.hid ho.toRds
  clear ho hb
  refine hK _ _ (⟨HQ.out.sb.cell 0, HQ.out.sb.cell 1, HQ.out.sb.cell 2, HQ.out.sb.cell 3, HQ.out.sb.cell 4, HQ.out.cf.cell 0, HQ.out.cf.cell 1, HQ.out.cf.cell 2, HQ.out.cf.cell 3, HQ.out.cf.cell 4, HQ.out.cf.cell 5, HQ.out.cf.cell 6, HQ.out.cf.cell 7, HQ.out.cf.cell 8, HQ.out.cf.cell 9, HQ.out.cf.cell 10⟩) ?_
  have hHeld := (show w6.cell? ⟨w.heap.size, 0, none⟩ = some (.int .i64 rd) ∧ w6.cell? ⟨w.heap.size, 1, none⟩ = some (.slice A l.length c) ∧ w6.cell? ⟨w.heap.size, 2, none⟩ = some (.bool o0) ∧ w6.cell? ⟨w.heap.size, 3, none⟩ = some (.bool o1) ∧ w6.cell? ⟨w.heap.size, 4, none⟩ = some (.bool o2) ∧ w6.cell? ⟨w.heap.size + 1, 0, none⟩ = some (.int .i64 f.cap.a) ∧ w6.cell? ⟨w.heap.size + 1, 1, none⟩ = some (.int .i64 f.cap.b) ∧ w6.cell? ⟨w.heap.size + 1, 2, none⟩ = some (.int .i64 f.cap.c) ∧ w6.cell? ⟨w.heap.size + 1, 3, none⟩ = some (.int .i64 f.room.a) ∧ w6.cell? ⟨w.heap.size + 1, 4, none⟩ = some (.int .i64 f.room.b) ∧ w6.cell? ⟨w.heap.size + 1, 5, none⟩ = some (.int .i64 f.room.c) ∧ w6.cell? ⟨w.heap.size + 1, 6, none⟩ = some (.slice f.A f.ts.length f.n) ∧ w6.cell? ⟨w.heap.size + 1, 7, none⟩ = some (.int .i64 f.per) ∧ w6.cell? ⟨w.heap.size + 1, 8, none⟩ = some (.int .i64 f.ret) ∧ w6.cell? ⟨w.heap.size + 1, 9, none⟩ = some (.int .i64 f.age) ∧ w6.cell? ⟨w.heap.size + 1, 10, none⟩ = some (.int .i64 f.dead) from ⟨HQ.out.sb.cell 0, HQ.out.sb.cell 1, HQ.out.sb.cell 2, HQ.out.sb.cell 3, HQ.out.sb.cell 4, HQ.out.cf.cell 0, HQ.out.cf.cell 1, HQ.out.cf.cell 2, HQ.out.cf.cell 3, HQ.out.cf.cell 4, HQ.out.cf.cell 5, HQ.out.cf.cell 6, HQ.out.cf.cell 7, HQ.out.cf.cell 8, HQ.out.cf.cell 9, HQ.out.cf.cell 10⟩)
  clear hK K
  simp only [Act.put, List.setIfInBounds_toArray, List.set_cons_zero, List.set_cons_succ]
  refine held_call 8 31 rfl rfl (by kernel_rfl) (by rfl) (fun K hK => ?_)
  go_simp
  go_at_call 31; (with_reducible refine (withinV HV.out rfl HRP.out HPL.out HPW.out HRM.out.1 HRM.out.2.1 HRM.out.2.2).mono ?_); rintro e w7 ⟨rfl, hb⟩
  have HQ := Lib.hid (HQ.out.below hb)
  clear hb
  refine hK _ _ (⟨HQ.out.sb.cell 0, HQ.out.sb.cell 1, HQ.out.sb.cell 2, HQ.out.sb.cell 3, HQ.out.sb.cell 4, HQ.out.cf.cell 0, HQ.out.cf.cell 1, HQ.out.cf.cell 2, HQ.out.cf.cell 3, HQ.out.cf.cell 4, HQ.out.cf.cell 5, HQ.out.cf.cell 6, HQ.out.cf.cell 7, HQ.out.cf.cell 8, HQ.out.cf.cell 9, HQ.out.cf.cell 10⟩) ?_
  have hHeld := (show w7.cell? ⟨w.heap.size, 0, none⟩ = some (.int .i64 rd) ∧ w7.cell? ⟨w.heap.size, 1, none⟩ = some (.slice A l.length c) ∧ w7.cell? ⟨w.heap.size, 2, none⟩ = some (.bool o0) ∧ w7.cell? ⟨w.heap.size, 3, none⟩ = some (.bool o1) ∧ w7.cell? ⟨w.heap.size, 4, none⟩ = some (.bool o2) ∧ w7.cell? ⟨w.heap.size + 1, 0, none⟩ = some (.int .i64 f.cap.a) ∧ w7.cell? ⟨w.heap.size + 1, 1, none⟩ = some (.int .i64 f.cap.b) ∧ w7.cell? ⟨w.heap.size + 1, 2, none⟩ = some (.int .i64 f.cap.c) ∧ w7.cell? ⟨w.heap.size + 1, 3, none⟩ = some (.int .i64 f.room.a) ∧ w7.cell? ⟨w.heap.size + 1, 4, none⟩ = some (.int .i64 f.room.b) ∧ w7.cell? ⟨w.heap.size + 1, 5, none⟩ = some (.int .i64 f.room.c) ∧ w7.cell? ⟨w.heap.size + 1, 6, none⟩ = some (.slice f.A f.ts.length f.n) ∧ w7.cell? ⟨w.heap.size + 1, 7, none⟩ = some (.int .i64 f.per) ∧ w7.cell? ⟨w.heap.size + 1, 8, none⟩ = some (.int .i64 f.ret) ∧ w7.cell? ⟨w.heap.size + 1, 9, none⟩ = some (.int .i64 f.age) ∧ w7.cell? ⟨w.heap.size + 1, 10, none⟩ = some (.int .i64 f.dead) from ⟨HQ.out.sb.cell 0, HQ.out.sb.cell 1, HQ.out.sb.cell 2, HQ.out.sb.cell 3, HQ.out.sb.cell 4, HQ.out.cf.cell 0, HQ.out.cf.cell 1, HQ.out.cf.cell 2, HQ.out.cf.cell 3, HQ.out.cf.cell 4, HQ.out.cf.cell 5, HQ.out.cf.cell 6, HQ.out.cf.cell 7, HQ.out.cf.cell 8, HQ.out.cf.cell 9, HQ.out.cf.cell 10⟩)
  clear hK K
  simp only [Act.put, List.setIfInBounds_toArray, List.set_cons_zero, List.set_cons_succ]
  refine held_take 9 32 (.bool true) rfl rfl (by kernel_rfl) (by kernel_rfl) (by kernel_rfl) (fun _ _ _ h => h) (by rfl) (by intro w' hSw; (try dsimp only at hSw); go_simp; (first | done | with_reducible rfl | (cases v <;> rfl))) (by assumption) ?_
  simp only [Act.put, List.setIfInBounds_toArray, List.set_cons_zero, List.set_cons_succ]
  refine held_take 10 4 (.bool true) rfl rfl (by kernel_rfl) (by kernel_rfl) (by kernel_rfl) (fun _ _ _ h => h) (by rfl) (by intro w' hSw; (try dsimp only at hSw); go_simp; (try (with_reducible rfl))) (by assumption) ?_
  simp only [Act.put, List.setIfInBounds_toArray, List.set_cons_zero, List.set_cons_succ]
  refine wpAnyH_done (by kernel_rfl) ?_ _
  clear hHeld
  go_wp2_with fail
  go_ret
  exact ⟨rfl, HQ.out.bel⟩
end Go.Proofs.YtakgblgbfbpmoaaDoor
