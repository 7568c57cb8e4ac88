/- bilgelaw17.SampleReads: of whatever raw sample: what is read, or that it is none; what each pod uses. -/
import Derived.Test.YtampjkgkiooibaaDoorSLaw
import Derived.Test.YtampjkgkiooibaaDoorRef20
import Derived.Test.YtampjkgkiooibaaDoorHeldOp
namespace Go.Proofs.YtampjkgkiooibaaDoor
open Go.RowKit

theorem right17X {t : Int} {v0 v1 v2 c : Nat} {A : Option Addr} {l : List Ug} {v : Bool} (hv : v = true ↔ RightR ⟨t, v0, v1, v2, A, l, c⟩) (w : World) (hr : Rw.Wf ⟨t, v0, v1, v2, A, l, c⟩ w) :
    Calls Tryd.prog 14 #[.agg #[.int .i64 t, .float .f64 v0, .float .f64 v1, .float .f64 v2, .slice A l.length c]] w fun e w' => e = .returned (.bool v) ∧ Below w.heap.size w w' := right17V_any hv w hr
theorem rno {p : Prop} (h : ¬ p) : false = true ↔ p := ⟨(fun h => by cases h), (fun k => absurd k h)⟩
theorem of_anyX {s : Sp} {id : ByteArray} {u : Us} (hu : usOf s.uses id = u) (w : World) (hr : Rds w encU s.A s.uses) (hl : s.uses.length ≤ 100000) (hs : SortedU s.uses) :
    Calls Tryd.prog 17 #[.agg s.cells, .string id] w fun e w' => e = .returned (.agg #[.int .i64 u.a0, .int .i64 u.a1, .int .i64 u.a2]) ∧ Below w.heap.size w w' := by
  subst hu
  exact of_any s id w hr hl hs
set_option maxRecDepth 100000 in
set_option maxHeartbeats 16000000 in
theorem sampleReads_any {t : Int} {v0 v1 v2 c : Nat} {A : Option Addr} {l : List Ug} (id : ByteArray) (w : World) (hr : Rw.Wf ⟨t, v0, v1, v2, A, l, c⟩ w) (hid : id.size ≤ 9223372036854775807) :
    Calls Tryd.prog 3 #[.agg #[.int .i64 t, .float .f64 v0, .float .f64 v1, .float .f64 v2, .slice A l.length c], .string id] w fun e w' => e = .returned (.bool true) ∧ Below w.heap.size w w' := by
  have mixed : Tryd.prog.follows Departure.mixedOrders = true := by kernel_rfl
  have HQ : Hid (RQ (⟨t, v0, v1, v2, A, l, c⟩ : Rw) w (w.alloc (.cells #[.int .i64 t, .float .f64 v0, .float .f64 v1, .float .f64 v2, .slice A l.length c] 26))) := RQ.new _ w hr.rds
  have HWF := Lib.hid hr
  have hlc := hr.len
  have hcm := hr.cap
  simp only at hlc hcm
  have ht := hr.time
  clear hr
  have HNB := Lib.hid ht
  have cr : ∀ i, (w.alloc (.cells #[.int .i64 t, .float .f64 v0, .float .f64 v1, .float .f64 v2, .slice A l.length c] 26)).cell? ⟨w.heap.size, i, none⟩ = (#[.int .i64 t, .float .f64 v0, .float .f64 v1, .float .f64 v2, .slice A l.length c] : Array Value)[i]? := HQ.out.box.cell
  go_enter Tryd.func3, Tryd.ntmps3
  go_wp2_with fail
  refine (awake17_any _).mono ?_; rintro e w1 ⟨rfl, hb⟩
  have HQ := Lib.hid (HQ.out.below hb)
  clear hb cr
  have cr : ∀ i, w1.cell? ⟨w.heap.size, i, none⟩ = (#[.int .i64 t, .float .f64 v0, .float .f64 v1, .float .f64 v2, .slice A l.length c] : Array Value)[i]? := HQ.out.box.cell
  go_wp2_with fail
  obtain ⟨vf, hvf⟩ : ∃ v, fewR l = v := ⟨_, rfl⟩
  refine (few17V_any (r := ⟨t, v0, v1, v2, A, l, c⟩) hvf _ (HWF.out.below HQ.out.bel).rds (by show l.length ≤ _; omega) HWF.out.ids).mono ?_; rintro e w2 ⟨rfl, hb⟩
  have HQ := Lib.hid (HQ.out.below hb)
  have HFW := Lib.hid hvf
  clear hb cr hvf
  cases vf
  · clear HFW
    go_wp2_with fail
    refine (awake17_any _).mono ?_; rintro e w9 ⟨rfl, hb⟩
    have HQ := Lib.hid (HQ.out.below hb)
    clear hb
    go_wp2_with fail
    go_ret
    exact ⟨rfl, HQ.out.bel⟩
  · have hl140 := few_len HFW.out
    by_cases h60 : 60 < id.size
    · have d60 : decide ((60 : Int) < (id.size : Int)) = true := decide_eq_true (by omega)
      have d60n : decide (60 < id.size) = true := decide_eq_true h60
      clear h60
      go_wp2_with fail
      refine (awake17_any _).mono ?_; rintro e w9 ⟨rfl, hb⟩
      have HQ := Lib.hid (HQ.out.below hb)
      clear hb
      go_wp2_with fail
      go_ret
      exact ⟨rfl, HQ.out.bel⟩
    · have d60 : decide ((60 : Int) < (id.size : Int)) = false := decide_eq_false (by omega)
      have d60n : decide (60 < id.size) = false := decide_eq_false h60
      clear h60
      obtain ⟨v, hv⟩ := exRight (⟨t, v0, v1, v2, A, l, c⟩ : Rw)
      have HVV := Lib.hid hv
      clear hv
      have cr : ∀ i, w2.cell? ⟨w.heap.size, i, none⟩ = (#[.int .i64 t, .float .f64 v0, .float .f64 v1, .float .f64 v2, .slice A l.length c] : Array Value)[i]? := HQ.out.box.cell
      cases v
      · have HNO : Hid (¬ RightR (⟨t, v0, v1, v2, A, l, c⟩ : Rw)) := fun h => by have := HVV.out.2 h; cases this
        go_wp2_with fail
        refine (sread_any (rno HNO.out) _ (HWF.out.below HQ.out.bel)).mono ?_; rintro e w3 ⟨rfl, hb⟩
        have HS1 := Lib.hid (Blk.new w3 32 #[.int .i64 0, .int .i64 0, .int .i64 0, .int .i64 0, .slice none 0 0])
        have HQ := Lib.hid (HQ.out.below hb)
        have HQ := Lib.hid (HQ.out.alloc (.cells #[.int .i64 0, .int .i64 0, .int .i64 0, .int .i64 0, .slice none 0 0] 32))
        clear hb cr HVV
        go_wp2_with fail
        have HQ := Lib.hid HQ.out.drew
        have HS1 := Lib.hid HS1.out.drew
        refine wp_region_held_drew (S := (fun w' => w'.cell? ⟨w.heap.size, 0, none⟩ = some (.int .i64 t) ∧ w'.cell? ⟨w.heap.size, 1, none⟩ = some (.float .f64 v0) ∧ w'.cell? ⟨w.heap.size, 2, none⟩ = some (.float .f64 v1) ∧ w'.cell? ⟨w.heap.size, 3, none⟩ = some (.float .f64 v2) ∧ w'.cell? ⟨w.heap.size, 4, none⟩ = some (.slice A l.length c))) (by kernel_rfl) (⟨HQ.out.box.cell 0, HQ.out.box.cell 1, HQ.out.box.cell 2, HQ.out.box.cell 3, HQ.out.box.cell 4⟩) (fun hHeld => ?_)
        refine held_take 0 26 (.agg #[.int .i64 t, .float .f64 v0, .float .f64 v1, .float .f64 v2, .slice A l.length c]) rfl rfl (by kernel_rfl) (by kernel_rfl) (by kernel_rfl) (fun _ _ _ h => h) (by rfl) (by intro w' hSw; (try dsimp only at hSw); go_simp; (try (with_reducible rfl))) (by assumption) ?_
        simp only [Act.put, List.setIfInBounds_toArray, List.set_cons_zero, List.set_cons_succ]
        refine held_take 2 28 (.agg #[.int .i64 t, .float .f64 v0, .float .f64 v1, .float .f64 v2, .slice A l.length c]) rfl rfl (by kernel_rfl) (by kernel_rfl) (by kernel_rfl) (fun _ _ _ h => h) (by rfl) (by intro w' hSw; (try dsimp only at hSw); go_simp; (try (with_reducible rfl))) (by assumption) ?_
        simp only [Act.put, List.setIfInBounds_toArray, List.set_cons_zero, List.set_cons_succ]
        refine held_call 1 27 rfl rfl (by kernel_rfl) (by rfl) (fun K hK => ?_)
        go_simp
        go_at_call 13; (with_reducible refine (sright_any _ (rno HNO.out) (HWF.out.below HQ.out.bel)).mono ?_); rintro x wq ⟨rfl, hb⟩
        have HQ := Lib.hid (HQ.out.below hb)
        have HS1 := Lib.hid (HS1.out.belowAll hb)
        clear hb
        refine hK _ _ (⟨HQ.out.box.cell 0, HQ.out.box.cell 1, HQ.out.box.cell 2, HQ.out.box.cell 3, HQ.out.box.cell 4⟩) ?_
        have hHeld := (show wq.cell? ⟨w.heap.size, 0, none⟩ = some (.int .i64 t) ∧ wq.cell? ⟨w.heap.size, 1, none⟩ = some (.float .f64 v0) ∧ wq.cell? ⟨w.heap.size, 2, none⟩ = some (.float .f64 v1) ∧ wq.cell? ⟨w.heap.size, 3, none⟩ = some (.float .f64 v2) ∧ wq.cell? ⟨w.heap.size, 4, none⟩ = some (.slice A l.length c) from ⟨HQ.out.box.cell 0, HQ.out.box.cell 1, HQ.out.box.cell 2, HQ.out.box.cell 3, HQ.out.box.cell 4⟩)
        clear hK K
        simp only [Act.put, List.setIfInBounds_toArray, List.set_cons_zero, List.set_cons_succ]
        refine held_call 3 29 rfl rfl (by kernel_rfl) (by rfl) (fun K hK => ?_)
        go_simp
        go_at_call 14; (with_reducible refine (right17X (rno HNO.out) _ (HWF.out.below HQ.out.bel)).mono ?_); rintro x wq ⟨rfl, hb⟩
        have HQ := Lib.hid (HQ.out.below hb)
        have HS1 := Lib.hid (HS1.out.belowAll hb)
        clear hb
        refine hK _ _ (⟨HQ.out.box.cell 0, HQ.out.box.cell 1, HQ.out.box.cell 2, HQ.out.box.cell 3, HQ.out.box.cell 4⟩) ?_
        have hHeld := (show wq.cell? ⟨w.heap.size, 0, none⟩ = some (.int .i64 t) ∧ wq.cell? ⟨w.heap.size, 1, none⟩ = some (.float .f64 v0) ∧ wq.cell? ⟨w.heap.size, 2, none⟩ = some (.float .f64 v1) ∧ wq.cell? ⟨w.heap.size, 3, none⟩ = some (.float .f64 v2) ∧ wq.cell? ⟨w.heap.size, 4, none⟩ = some (.slice A l.length c) from ⟨HQ.out.box.cell 0, HQ.out.box.cell 1, HQ.out.box.cell 2, HQ.out.box.cell 3, HQ.out.box.cell 4⟩)
        clear hK K
        simp only [Act.put, List.setIfInBounds_toArray, List.set_cons_zero, List.set_cons_succ]
        refine held_take 4 30 (.bool false) rfl rfl (by kernel_rfl) (by kernel_rfl) (by kernel_rfl) (fun _ _ _ h => h) (by rfl) (by intro w' hSw; (try dsimp only at hSw); go_simp; (first | done | with_reducible rfl | (simp; done))) (by assumption) ?_
        simp only [Act.put, List.setIfInBounds_toArray, List.set_cons_zero, List.set_cons_succ]
        refine wpAnyH_done (by kernel_rfl) ?_ _
        clear hHeld
        have cr : ∀ i, wq.cell? ⟨w.heap.size, i, none⟩ = (#[.int .i64 t, .float .f64 v0, .float .f64 v1, .float .f64 v2, .slice A l.length c] : Array Value)[i]? := HQ.out.box.cell
        go_wp2_with fail
        refine (right17X (rno HNO.out) _ (HWF.out.below HQ.out.bel)).mono ?_; rintro x w5 ⟨rfl, hb⟩
        have HQ := Lib.hid (HQ.out.below hb)
        have HS1 := Lib.hid (HS1.out.belowAll hb)
        clear hb cr
        have ks : ∀ i, w5.cell? ⟨w3.heap.size, i, none⟩ = (#[.int .i64 0, .int .i64 0, .int .i64 0, .int .i64 0, .slice none 0 0] : Array Value)[i]? := HS1.out.cell
        go_wp2_with fail
        refine (same17_self 0 0 0 0 [] none none 0 0 _ (fun h => absurd rfl h) (fun h => absurd rfl h) (by decide)).mono ?_; rintro x w6 ⟨rfl, hb⟩
        have HQ := Lib.hid (HQ.out.below hb)
        clear hb
        go_wp2_with fail
        go_ret
        exact ⟨rfl, HQ.out.bel⟩
      · have HRT : Hid (RightR (⟨t, v0, v1, v2, A, l, c⟩ : Rw)) := HVV.out.1 rfl
        have HSO := Lib.hid (sortedP_iff.1 (readUses_sorted (distinct_of HRT.out.ok)))
        obtain ⟨x0, x1, x2, HX3⟩ : ∃ x y z, Hid (readN v0 = x ∧ readN v1 = y ∧ readN v2 = z) := ⟨_, _, _, ⟨rfl, rfl, rfl⟩⟩
        have hll : (readUses l).length ≤ 140 := by rw [readUses_len]; exact hl140
        have HRD := Lib.hid (fun W hw => read17_walk (t := t) (c := c) (A := A) W hw HRT.out.len HX3.out.1 HX3.out.2.1 HX3.out.2.2)
        go_wp2_with fail
        refine (sread_walk _ ⟨fun _ => HRT.out, fun _ => rfl⟩ (HWF.out.below HQ.out.bel) HX3.out.1 HX3.out.2.1 HX3.out.2.2).mono ?_; rintro e w3 ⟨A1, c1, rfl, ho, hb⟩
        have HQ := Lib.hid (HQ.out.below hb)
        have HU1 := Lib.hid ho.toRds
        have HN0 := Lib.hid (Blk.new w3 32 #[.int .i64 0, .int .i64 0, .int .i64 0, .int .i64 0, .slice none 0 0])
        clear ho hb cr HVV
        generalize readUses l = L at *
        go_wp2_with (refine wl_store_blk rfl 32 (.tmp 5) (.tmp 24) rfl w3.heap.size 32 #[.int .i64 0, .int .i64 0, .int .i64 0, .int .i64 0, .slice none 0 0] #[.int .i64 t, .int .i64 x0, .int .i64 x1, .int .i64 x2, .slice A1 L.length c1] rfl rfl HN0.out rfl szS (by simp [Value.oneCell']) ?_; intro w4 hN1 hg1 hs1; have HS1 := Lib.hid hN1; have HBF := Lib.hid (below_fresh hg1); have HQ := Lib.hid (HQ.out.below HBF.out); have HU1 := Lib.hid (HU1.out.below HBF.out); clear hN1 hg1 hs1)
        clear HN0 HBF
        generalize w3.heap.size = n1 at *
        have HQ := Lib.hid HQ.out.drew
        have HS1 := Lib.hid HS1.out.drew
        have HU1 := Lib.hid HU1.out.drew
        refine wp_region_held_drew (S := (fun w' => w'.cell? ⟨w.heap.size, 0, none⟩ = some (.int .i64 t) ∧ w'.cell? ⟨w.heap.size, 1, none⟩ = some (.float .f64 v0) ∧ w'.cell? ⟨w.heap.size, 2, none⟩ = some (.float .f64 v1) ∧ w'.cell? ⟨w.heap.size, 3, none⟩ = some (.float .f64 v2) ∧ w'.cell? ⟨w.heap.size, 4, none⟩ = some (.slice A l.length c))) (by kernel_rfl) (⟨HQ.out.box.cell 0, HQ.out.box.cell 1, HQ.out.box.cell 2, HQ.out.box.cell 3, HQ.out.box.cell 4⟩) (fun hHeld => ?_)
        refine held_take 0 26 (.agg #[.int .i64 t, .float .f64 v0, .float .f64 v1, .float .f64 v2, .slice A l.length c]) rfl rfl (by kernel_rfl) (by kernel_rfl) (by kernel_rfl) (fun _ _ _ h => h) (by rfl) (by intro w' hSw; (try dsimp only at hSw); go_simp; (try (with_reducible rfl))) (by assumption) ?_
        simp only [Act.put, List.setIfInBounds_toArray, List.set_cons_zero, List.set_cons_succ]
        refine held_take 2 28 (.agg #[.int .i64 t, .float .f64 v0, .float .f64 v1, .float .f64 v2, .slice A l.length c]) rfl rfl (by kernel_rfl) (by kernel_rfl) (by kernel_rfl) (fun _ _ _ h => h) (by rfl) (by intro w' hSw; (try dsimp only at hSw); go_simp; (try (with_reducible rfl))) (by assumption) ?_
        simp only [Act.put, List.setIfInBounds_toArray, List.set_cons_zero, List.set_cons_succ]
        refine held_call 1 27 rfl rfl (by kernel_rfl) (by rfl) (fun K hK => ?_)
        go_simp
        go_at_call 13; (with_reducible refine (sright_any _ ⟨fun _ => HRT.out, fun _ => rfl⟩ (HWF.out.below HQ.out.bel)).mono ?_); rintro x wq ⟨rfl, hb⟩
        have HQ := Lib.hid (HQ.out.below hb)
        have HS1 := Lib.hid (HS1.out.belowAll hb)
        have HU1 := Lib.hid (HU1.out.below hb)
        clear hb
        refine hK _ _ (⟨HQ.out.box.cell 0, HQ.out.box.cell 1, HQ.out.box.cell 2, HQ.out.box.cell 3, HQ.out.box.cell 4⟩) ?_
        have hHeld := (show wq.cell? ⟨w.heap.size, 0, none⟩ = some (.int .i64 t) ∧ wq.cell? ⟨w.heap.size, 1, none⟩ = some (.float .f64 v0) ∧ wq.cell? ⟨w.heap.size, 2, none⟩ = some (.float .f64 v1) ∧ wq.cell? ⟨w.heap.size, 3, none⟩ = some (.float .f64 v2) ∧ wq.cell? ⟨w.heap.size, 4, none⟩ = some (.slice A l.length c) from ⟨HQ.out.box.cell 0, HQ.out.box.cell 1, HQ.out.box.cell 2, HQ.out.box.cell 3, HQ.out.box.cell 4⟩)
        clear hK K
        simp only [Act.put, List.setIfInBounds_toArray, List.set_cons_zero, List.set_cons_succ]
        refine held_call 3 29 rfl rfl (by kernel_rfl) (by rfl) (fun K hK => ?_)
        go_simp
        go_at_call 14; (with_reducible refine (right17X ⟨fun _ => HRT.out, fun _ => rfl⟩ _ (HWF.out.below HQ.out.bel)).mono ?_); rintro x wq ⟨rfl, hb⟩
        have HQ := Lib.hid (HQ.out.below hb)
        have HS1 := Lib.hid (HS1.out.belowAll hb)
        have HU1 := Lib.hid (HU1.out.below hb)
        clear hb
        refine hK _ _ (⟨HQ.out.box.cell 0, HQ.out.box.cell 1, HQ.out.box.cell 2, HQ.out.box.cell 3, HQ.out.box.cell 4⟩) ?_
        have hHeld := (show wq.cell? ⟨w.heap.size, 0, none⟩ = some (.int .i64 t) ∧ wq.cell? ⟨w.heap.size, 1, none⟩ = some (.float .f64 v0) ∧ wq.cell? ⟨w.heap.size, 2, none⟩ = some (.float .f64 v1) ∧ wq.cell? ⟨w.heap.size, 3, none⟩ = some (.float .f64 v2) ∧ wq.cell? ⟨w.heap.size, 4, none⟩ = some (.slice A l.length c) from ⟨HQ.out.box.cell 0, HQ.out.box.cell 1, HQ.out.box.cell 2, HQ.out.box.cell 3, HQ.out.box.cell 4⟩)
        clear hK K
        simp only [Act.put, List.setIfInBounds_toArray, List.set_cons_zero, List.set_cons_succ]
        refine held_take 4 30 (.bool false) rfl rfl (by kernel_rfl) (by kernel_rfl) (by kernel_rfl) (fun _ _ _ h => h) (by rfl) (by intro w' hSw; (try dsimp only at hSw); go_simp; (first | done | with_reducible rfl | (simp; done))) (by assumption) ?_
        simp only [Act.put, List.setIfInBounds_toArray, List.set_cons_zero, List.set_cons_succ]
        refine wpAnyH_done (by kernel_rfl) ?_ _
        clear hHeld
        have cr : ∀ i, wq.cell? ⟨w.heap.size, i, none⟩ = (#[.int .i64 t, .float .f64 v0, .float .f64 v1, .float .f64 v2, .slice A l.length c] : Array Value)[i]? := HQ.out.box.cell
        go_wp2_with fail
        refine (right17X ⟨fun _ => HRT.out, fun _ => rfl⟩ _ (HWF.out.below HQ.out.bel)).mono ?_; rintro x w5 ⟨rfl, hb⟩
        have HQ := Lib.hid (HQ.out.below hb)
        have HS1 := Lib.hid (HS1.out.belowAll hb)
        have HU1 := Lib.hid (HU1.out.below hb)
        clear hb cr
        have cr : ∀ i, w5.cell? ⟨w.heap.size, i, none⟩ = (#[.int .i64 t, .float .f64 v0, .float .f64 v1, .float .f64 v2, .slice A l.length c] : Array Value)[i]? := HQ.out.box.cell
        go_wp2_with fail
        refine (HRD.out _ (HWF.out.below HQ.out.bel)).mono ?_; rintro x w6 ⟨A2, c2, rfl, ho, hb⟩
        have HQ := Lib.hid (HQ.out.below hb)
        have HS1 := Lib.hid (HS1.out.belowAll hb)
        have HU1 := Lib.hid (HU1.out.below hb)
        have HU2 := Lib.hid ho.toRds
        have HN0 := Lib.hid (Blk.new w6 32 #[.int .i64 0, .int .i64 0, .int .i64 0, .int .i64 0, .slice none 0 0])
        clear ho hb cr
        go_wp2_with (refine wl_store_blk rfl 32 (.tmp 7) (.tmp 42) rfl w6.heap.size 32 #[.int .i64 0, .int .i64 0, .int .i64 0, .int .i64 0, .slice none 0 0] #[.int .i64 t, .int .i64 x0, .int .i64 x1, .int .i64 x2, .slice A2 L.length c2] rfl rfl HN0.out rfl szS (by simp [Value.oneCell']) ?_; intro w7 hN1 hg1 hs1; have HS2 := Lib.hid hN1; have HBF := Lib.hid (below_fresh hg1); have HQ := Lib.hid (HQ.out.below HBF.out); have HU1 := Lib.hid (HU1.out.below HBF.out); have HU2 := Lib.hid (HU2.out.below HBF.out); have HS1 := Lib.hid (HS1.out.belowAll HBF.out); clear hN1 hg1 hs1)
        clear HN0 HBF
        generalize w6.heap.size = n2 at *
        obtain ⟨u, hu⟩ : ∃ u, usOf L id = u := ⟨_, rfl⟩
        have HUO := Lib.hid hu
        clear hu
        have HQ := Lib.hid HQ.out.drew
        have HS1 := Lib.hid HS1.out.drew
        have HS2 := Lib.hid HS2.out.drew
        have HU1 := Lib.hid HU1.out.drew
        have HU2 := Lib.hid HU2.out.drew
        refine wp_region_held_drew (S := (fun w' => w'.cell? ⟨n1, 0, none⟩ = some (.int .i64 t) ∧ w'.cell? ⟨n1, 1, none⟩ = some (.int .i64 x0) ∧ w'.cell? ⟨n1, 2, none⟩ = some (.int .i64 x1) ∧ w'.cell? ⟨n1, 3, none⟩ = some (.int .i64 x2) ∧ w'.cell? ⟨n1, 4, none⟩ = some (.slice A1 L.length c1) ∧ w'.cell? ⟨n2, 0, none⟩ = some (.int .i64 t) ∧ w'.cell? ⟨n2, 1, none⟩ = some (.int .i64 x0) ∧ w'.cell? ⟨n2, 2, none⟩ = some (.int .i64 x1) ∧ w'.cell? ⟨n2, 3, none⟩ = some (.int .i64 x2) ∧ w'.cell? ⟨n2, 4, none⟩ = some (.slice A2 L.length c2))) (by kernel_rfl) (⟨HS1.out.cell 0, HS1.out.cell 1, HS1.out.cell 2, HS1.out.cell 3, HS1.out.cell 4, HS2.out.cell 0, HS2.out.cell 1, HS2.out.cell 2, HS2.out.cell 3, HS2.out.cell 4⟩) (fun hHeld => ?_)
        refine held_take 0 43 (.int .i64 0) rfl rfl (by kernel_rfl) (by kernel_rfl) (by kernel_rfl) (fun _ _ _ h => h) (by rfl) (by intro w' hSw; (try dsimp only at hSw); go_simp; (try (with_reducible rfl))) (by assumption) ?_
        simp only [Act.put, List.setIfInBounds_toArray, List.set_cons_zero, List.set_cons_succ]
        refine held_take 1 44 (.bool true) rfl rfl (by kernel_rfl) (by kernel_rfl) (by kernel_rfl) (fun _ _ _ h => h) (by rfl) (by intro w' hSw; (try dsimp only at hSw); go_simp; (first | done | with_reducible rfl | (simp; done))) (by assumption) ?_
        simp only [Act.put, List.setIfInBounds_toArray, List.set_cons_zero, List.set_cons_succ]
        refine held_take 2 45 (.bool true) rfl rfl (by kernel_rfl) (by kernel_rfl) (by kernel_rfl) (fun _ _ _ h => h) (by rfl) (by intro w' hSw; (try dsimp only at hSw); go_simp; (try (with_reducible rfl))) (by assumption) ?_
        simp only [Act.put, List.setIfInBounds_toArray, List.set_cons_zero, List.set_cons_succ]
        refine held_take 3 46 (.agg #[.int .i64 t, .int .i64 x0, .int .i64 x1, .int .i64 x2, .slice A1 L.length c1]) rfl rfl (by kernel_rfl) (by kernel_rfl) (by kernel_rfl) (fun _ _ _ h => h) (by rfl) (by intro w' hSw; (try dsimp only at hSw); go_simp; (try (with_reducible rfl))) (by assumption) ?_
        simp only [Act.put, List.setIfInBounds_toArray, List.set_cons_zero, List.set_cons_succ]
        refine held_take 4 47 (.agg #[.int .i64 t, .int .i64 x0, .int .i64 x1, .int .i64 x2, .slice A2 L.length c2]) rfl rfl (by kernel_rfl) (by kernel_rfl) (by kernel_rfl) (fun _ _ _ h => h) (by rfl) (by intro w' hSw; (try dsimp only at hSw); go_simp; (try (with_reducible rfl))) (by assumption) ?_
        simp only [Act.put, List.setIfInBounds_toArray, List.set_cons_zero, List.set_cons_succ]
        refine held_call 5 48 rfl rfl (by kernel_rfl) (by rfl) (fun K hK => ?_)
        go_simp
        go_at_call 15; (with_reducible refine (same17_self t x0 x1 x2 L A1 A2 c1 c2 _ HU1.out HU2.out (by omega)).mono ?_); rintro x wq ⟨rfl, hb⟩
        have HQ := Lib.hid (HQ.out.below hb)
        have HS1 := Lib.hid (HS1.out.belowAll hb)
        have HS2 := Lib.hid (HS2.out.belowAll hb)
        have HU1 := Lib.hid (HU1.out.below hb)
        have HU2 := Lib.hid (HU2.out.below hb)
        clear hb
        refine hK _ _ (⟨HS1.out.cell 0, HS1.out.cell 1, HS1.out.cell 2, HS1.out.cell 3, HS1.out.cell 4, HS2.out.cell 0, HS2.out.cell 1, HS2.out.cell 2, HS2.out.cell 3, HS2.out.cell 4⟩) ?_
        have hHeld := (show wq.cell? ⟨n1, 0, none⟩ = some (.int .i64 t) ∧ wq.cell? ⟨n1, 1, none⟩ = some (.int .i64 x0) ∧ wq.cell? ⟨n1, 2, none⟩ = some (.int .i64 x1) ∧ wq.cell? ⟨n1, 3, none⟩ = some (.int .i64 x2) ∧ wq.cell? ⟨n1, 4, none⟩ = some (.slice A1 L.length c1) ∧ wq.cell? ⟨n2, 0, none⟩ = some (.int .i64 t) ∧ wq.cell? ⟨n2, 1, none⟩ = some (.int .i64 x0) ∧ wq.cell? ⟨n2, 2, none⟩ = some (.int .i64 x1) ∧ wq.cell? ⟨n2, 3, none⟩ = some (.int .i64 x2) ∧ wq.cell? ⟨n2, 4, none⟩ = some (.slice A2 L.length c2) from ⟨HS1.out.cell 0, HS1.out.cell 1, HS1.out.cell 2, HS1.out.cell 3, HS1.out.cell 4, HS2.out.cell 0, HS2.out.cell 1, HS2.out.cell 2, HS2.out.cell 3, HS2.out.cell 4⟩)
        clear hK K
        simp only [Act.put, List.setIfInBounds_toArray, List.set_cons_zero, List.set_cons_succ]
        refine held_take 6 49 (.bool true) rfl rfl (by kernel_rfl) (by kernel_rfl) (by kernel_rfl) (fun _ _ _ h => h) (by rfl) (by intro w' hSw; (try dsimp only at hSw); go_simp; (try (with_reducible rfl))) (by assumption) ?_
        simp only [Act.put, List.setIfInBounds_toArray, List.set_cons_zero, List.set_cons_succ]
        refine held_take 7 50 (.bool true) rfl rfl (by kernel_rfl) (by kernel_rfl) (by kernel_rfl) (fun _ _ _ h => h) (by rfl) (by intro w' hSw; (try dsimp only at hSw); go_simp; (try (with_reducible rfl))) (by assumption) ?_
        simp only [Act.put, List.setIfInBounds_toArray, List.set_cons_zero, List.set_cons_succ]
        refine held_take 8 51 (.agg #[.int .i64 t, .int .i64 x0, .int .i64 x1, .int .i64 x2, .slice A1 L.length c1]) rfl rfl (by kernel_rfl) (by kernel_rfl) (by kernel_rfl) (fun _ _ _ h => h) (by rfl) (by intro w' hSw; (try dsimp only at hSw); go_simp; (try (with_reducible rfl))) (by assumption) ?_
        simp only [Act.put, List.setIfInBounds_toArray, List.set_cons_zero, List.set_cons_succ]
        refine held_take 9 52 (.string id) rfl rfl (by kernel_rfl) (by kernel_rfl) (by kernel_rfl) (fun _ _ _ h => h) (by rfl) (by intro w' hSw; (try dsimp only at hSw); go_simp; (try (with_reducible rfl))) (by assumption) ?_
        simp only [Act.put, List.setIfInBounds_toArray, List.set_cons_zero, List.set_cons_succ]
        refine held_take 11 54 (.agg #[.int .i64 t, .int .i64 x0, .int .i64 x1, .int .i64 x2, .slice A2 L.length c2]) rfl rfl (by kernel_rfl) (by kernel_rfl) (by kernel_rfl) (fun _ _ _ h => h) (by rfl) (by intro w' hSw; (try dsimp only at hSw); go_simp; (try (with_reducible rfl))) (by assumption) ?_
        simp only [Act.put, List.setIfInBounds_toArray, List.set_cons_zero, List.set_cons_succ]
        refine held_take 12 55 (.string id) rfl rfl (by kernel_rfl) (by kernel_rfl) (by kernel_rfl) (fun _ _ _ h => h) (by rfl) (by intro w' hSw; (try dsimp only at hSw); go_simp; (try (with_reducible rfl))) (by assumption) ?_
        simp only [Act.put, List.setIfInBounds_toArray, List.set_cons_zero, List.set_cons_succ]
        refine held_call 10 53 rfl rfl (by kernel_rfl) (by rfl) (fun K hK => ?_)
        go_simp
        go_at_call 17; (with_reducible refine (of_anyX (s := ⟨t, x0, x1, x2, A1, L, c1⟩) HUO.out _ HU1.out (by show L.length ≤ _; omega) HSO.out).mono ?_); rintro x wq ⟨rfl, hb⟩
        have HQ := Lib.hid (HQ.out.below hb)
        have HS1 := Lib.hid (HS1.out.belowAll hb)
        have HS2 := Lib.hid (HS2.out.belowAll hb)
        have HU1 := Lib.hid (HU1.out.below hb)
        have HU2 := Lib.hid (HU2.out.below hb)
        clear hb
        refine hK _ _ (⟨HS1.out.cell 0, HS1.out.cell 1, HS1.out.cell 2, HS1.out.cell 3, HS1.out.cell 4, HS2.out.cell 0, HS2.out.cell 1, HS2.out.cell 2, HS2.out.cell 3, HS2.out.cell 4⟩) ?_
        have hHeld := (show wq.cell? ⟨n1, 0, none⟩ = some (.int .i64 t) ∧ wq.cell? ⟨n1, 1, none⟩ = some (.int .i64 x0) ∧ wq.cell? ⟨n1, 2, none⟩ = some (.int .i64 x1) ∧ wq.cell? ⟨n1, 3, none⟩ = some (.int .i64 x2) ∧ wq.cell? ⟨n1, 4, none⟩ = some (.slice A1 L.length c1) ∧ wq.cell? ⟨n2, 0, none⟩ = some (.int .i64 t) ∧ wq.cell? ⟨n2, 1, none⟩ = some (.int .i64 x0) ∧ wq.cell? ⟨n2, 2, none⟩ = some (.int .i64 x1) ∧ wq.cell? ⟨n2, 3, none⟩ = some (.int .i64 x2) ∧ wq.cell? ⟨n2, 4, none⟩ = some (.slice A2 L.length c2) from ⟨HS1.out.cell 0, HS1.out.cell 1, HS1.out.cell 2, HS1.out.cell 3, HS1.out.cell 4, HS2.out.cell 0, HS2.out.cell 1, HS2.out.cell 2, HS2.out.cell 3, HS2.out.cell 4⟩)
        clear hK K
        simp only [Act.put, List.setIfInBounds_toArray, List.set_cons_zero, List.set_cons_succ]
        refine held_call 13 56 rfl rfl (by kernel_rfl) (by rfl) (fun K hK => ?_)
        go_simp
        go_at_call 18; (with_reducible refine (refOf_any ⟨t, x0, x1, x2, A2, L, c2⟩ id u _ HU2.out (by show L.length ≤ _; omega) HSO.out HUO.out).mono ?_); rintro x wq ⟨rfl, hb⟩
        have HQ := Lib.hid (HQ.out.below hb)
        have HS1 := Lib.hid (HS1.out.belowAll hb)
        have HS2 := Lib.hid (HS2.out.belowAll hb)
        have HU1 := Lib.hid (HU1.out.below hb)
        have HU2 := Lib.hid (HU2.out.below hb)
        clear hb
        refine hK _ _ (⟨HS1.out.cell 0, HS1.out.cell 1, HS1.out.cell 2, HS1.out.cell 3, HS1.out.cell 4, HS2.out.cell 0, HS2.out.cell 1, HS2.out.cell 2, HS2.out.cell 3, HS2.out.cell 4⟩) ?_
        have hHeld := (show wq.cell? ⟨n1, 0, none⟩ = some (.int .i64 t) ∧ wq.cell? ⟨n1, 1, none⟩ = some (.int .i64 x0) ∧ wq.cell? ⟨n1, 2, none⟩ = some (.int .i64 x1) ∧ wq.cell? ⟨n1, 3, none⟩ = some (.int .i64 x2) ∧ wq.cell? ⟨n1, 4, none⟩ = some (.slice A1 L.length c1) ∧ wq.cell? ⟨n2, 0, none⟩ = some (.int .i64 t) ∧ wq.cell? ⟨n2, 1, none⟩ = some (.int .i64 x0) ∧ wq.cell? ⟨n2, 2, none⟩ = some (.int .i64 x1) ∧ wq.cell? ⟨n2, 3, none⟩ = some (.int .i64 x2) ∧ wq.cell? ⟨n2, 4, none⟩ = some (.slice A2 L.length c2) from ⟨HS1.out.cell 0, HS1.out.cell 1, HS1.out.cell 2, HS1.out.cell 3, HS1.out.cell 4, HS2.out.cell 0, HS2.out.cell 1, HS2.out.cell 2, HS2.out.cell 3, HS2.out.cell 4⟩)
        clear hK K
        simp only [Act.put, List.setIfInBounds_toArray, List.set_cons_zero, List.set_cons_succ]
        refine held_take 14 57 (.bool true) rfl rfl (by kernel_rfl) (by kernel_rfl) (by kernel_rfl) (fun _ _ _ h => h) (by rfl) (by intro w' hSw; (try dsimp only at hSw); go_simp; (first | done | with_reducible rfl | (simp; done))) (by assumption) ?_
        simp only [Act.put, List.setIfInBounds_toArray, List.set_cons_zero, List.set_cons_succ]
        refine held_take 15 58 (.bool true) rfl rfl (by kernel_rfl) (by kernel_rfl) (by kernel_rfl) (fun _ _ _ h => h) (by rfl) (by intro w' hSw; (try dsimp only at hSw); go_simp; (try (with_reducible rfl))) (by assumption) ?_
        simp only [Act.put, List.setIfInBounds_toArray, List.set_cons_zero, List.set_cons_succ]
        refine held_take 16 4 (.bool true) rfl rfl (by kernel_rfl) (by kernel_rfl) (by kernel_rfl) (fun _ _ _ h => h) (by rfl) (by intro w' hSw; (try dsimp only at hSw); go_simp; (try (with_reducible rfl))) (by assumption) ?_
        simp only [Act.put, List.setIfInBounds_toArray, List.set_cons_zero, List.set_cons_succ]
        refine wpAnyH_done (by kernel_rfl) ?_ _
        clear hHeld
        go_wp2_with fail
        go_ret
        exact ⟨rfl, HQ.out.bel⟩
end Go.Proofs.YtampjkgkiooibaaDoor
