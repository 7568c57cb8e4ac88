/- bilgelaw21.VictimChooses: of whatever room, pods and pod: whether they fit, which may go, who goes. -/
import Derived.Test.YtabbkembpghfdaaVRefChoose
namespace Go.Proofs.Ytabbkembpghfdaa
open Go.RowKit

theorem cpxCells {room : S3} {p x : Pd} {l : List Pd} {b off i : Nat} {w W : World} (h : CQ room p w W) (hr : Rds W encP (some ⟨b, off, none⟩) l) (hi : l[i]? = some x) : W.cell? ⟨w.heap.size + 1, 0, none⟩ = some (.string p.id) ∧ W.cell? ⟨w.heap.size + 1, 1, none⟩ = some (.int .i64 p.prio) ∧ W.cell? ⟨w.heap.size + 1, 2, none⟩ = some (.bool p.crit) ∧ W.cell? ⟨w.heap.size + 1, 3, none⟩ = some (.int .i64 p.q0) ∧ W.cell? ⟨w.heap.size + 1, 4, none⟩ = some (.int .i64 p.q1) ∧ W.cell? ⟨w.heap.size + 1, 5, none⟩ = some (.int .i64 p.q2) ∧ W.cell? ⟨w.heap.size + 1, 6, none⟩ = some (.int .i64 p.l0) ∧ W.cell? ⟨w.heap.size + 1, 7, none⟩ = some (.int .i64 p.l1) ∧ W.cell? ⟨w.heap.size + 1, 8, none⟩ = some (.int .i64 p.l2) ∧ W.cell? ⟨w.heap.size + 1, 9, none⟩ = some (.string p.image) ∧ W.cell? ⟨w.heap.size + 1, 10, none⟩ = some (.int .i64 p.size) ∧ W.cell? ⟨b, off + i * 11, none⟩ = some (.string x.id) ∧ W.cell? ⟨b, off + i * 11 + 1, none⟩ = some (.int .i64 x.prio) ∧ W.cell? ⟨b, off + i * 11 + 2, none⟩ = some (.bool x.crit) ∧ W.cell? ⟨b, off + i * 11 + 3, none⟩ = some (.int .i64 x.q0) ∧ W.cell? ⟨b, off + i * 11 + 4, none⟩ = some (.int .i64 x.q1) ∧ W.cell? ⟨b, off + i * 11 + 5, none⟩ = some (.int .i64 x.q2) ∧ W.cell? ⟨b, off + i * 11 + 6, none⟩ = some (.int .i64 x.l0) ∧ W.cell? ⟨b, off + i * 11 + 7, none⟩ = some (.int .i64 x.l1) ∧ W.cell? ⟨b, off + i * 11 + 8, none⟩ = some (.int .i64 x.l2) ∧ W.cell? ⟨b, off + i * 11 + 9, none⟩ = some (.string x.image) ∧ W.cell? ⟨b, off + i * 11 + 10, none⟩ = some (.int .i64 x.size) := by
  obtain ⟨q0, q1, q2, q3, q4, q5, q6, q7, q8, q9, q10⟩ := h.pb.pd
  obtain ⟨x0, x1, x2, x3, x4, x5, x6, x7, x8, x9, x10⟩ := hr.pdAt (Below.refl _ _) hi
  exact ⟨q0, q1, q2, q3, q4, q5, q6, q7, q8, q9, q10, x0, x1, x2, x3, x4, x5, x6, x7, x8, x9, x10⟩
theorem rmCells {room : S3} {p : Pd} {w W : World} (h : CQ room p w W) : W.cell? ⟨w.heap.size, 0, none⟩ = some (.int .i64 room.a) ∧ W.cell? ⟨w.heap.size, 1, none⟩ = some (.int .i64 room.b) ∧ W.cell? ⟨w.heap.size, 2, none⟩ = some (.int .i64 room.c) := ⟨h.rm.cell 0, h.rm.cell 1, h.rm.cell 2⟩
theorem sameV (O : List ByteArray) (A B : Option Addr) (c d : Nat) (w : World) (hr : Rds w encS A O) (hs : Rds w encS B O) (hl : O.length ≤ 9223372036854775807) :
    Calls Try.prog 20 #[.slice A O.length c, .slice B O.length d] w fun e w' => e = .returned (.bool true) ∧ Below w.heap.size w w' :=
  (sameTexts_b O O A B c d w hr hs hl hl).mono fun _ _ ⟨h1, h2⟩ => ⟨by rw [h1]; simp, h2⟩
set_option maxRecDepth 100000 in
set_option maxHeartbeats 16000000 in
theorem victimChooses_any (room : S3) (l : List Pd) (p : Pd) (Al : Option Addr) (cl : Nat) (w : World) (hr : Rds w encP Al l) (hw : ∀ x ∈ l, x.Wf) (hm : l.length ≤ 9223372036854775807) (hp : p.Wf) :
    Calls Try.prog 3 #[.agg #[.int .i64 room.a, .int .i64 room.b, .int .i64 room.c], .slice Al l.length cl, .agg p.cells] w fun e w' => e = .returned (.bool true) ∧ Below w.heap.size w w' := by
  have mixed : Try.prog.follows Departure.mixedOrders = true := by kernel_rfl
  have HQ := Lib.hid (CQ.new room p w)
  have HR := Lib.hid hr
  have HW := Lib.hid hw
  have HPW := Lib.hid hp
  clear hr hw hp
  go_enter Try.func3, Try.ntmps3
  go_wp2_with fail
  refine (awake21_any _).mono ?_; rintro e w1 ⟨rfl, hb⟩
  have HQ := Lib.hid (HQ.out.below hb)
  clear hb
  have crm := HQ.out.rm.cell
  have cp := HQ.out.pb.cell
  by_cases hf : FitV room l p
  rotate_left
  · go_wp2_with fail
    refine (refFitV_any (v := false) (room := room) (p := p) (by simp [hf]) Al cl _ (HR.out.below HQ.out.bel) HW.out HPW.out hm).mono ?_; rintro e w2 ⟨rfl, hb⟩
    have HQ := Lib.hid (HQ.out.below hb)
    clear hb crm cp hf
    go_wp2_with fail
    refine (awake21_any _).mono ?_; rintro e w3 ⟨rfl, hb⟩
    have HQ := Lib.hid (HQ.out.below hb)
    clear hb
    go_wp2_with fail
    go_ret
    exact ⟨rfl, HQ.out.bel⟩
  · have HF := Lib.hid hf
    go_wp2_with fail
    refine (refFitV_any (v := true) (room := room) (p := p) (by simp [hf]) Al cl _ (HR.out.below HQ.out.bel) HW.out HPW.out hm).mono ?_; rintro e w1 ⟨rfl, hb⟩
    have HQ := Lib.hid (HQ.out.below hb)
    have HRL := Lib.hid (HR.out.below HQ.out.bel)
    have hl := hf.len
    clear hb crm cp hf
    go_wp2_with fail
    go_loopw [7] (fun ii wr => ∃ (i : Nat), i ≤ l.length ∧ ii = .int .i64 i ∧ Below w1.heap.size w1 wr) (fun ii _ => l.length - (intOf ii).toNat)
    case atStart => exact ⟨0, by omega, rfl, Below.refl _ _⟩
    case round =>
      obtain ⟨i, hi, rfl, hbl⟩ := hrel
      have HP := Lib.hid hbl
      have HQ := Lib.hid (HQ.out.below hbl)
      have HRi := Lib.hid (HRL.out.below hbl)
      clear hbl
      by_cases hlt : i < l.length
      · have dk : decide ((i : Int) < (l.length : Int)) = true := decide_eq_true (by omega)
        have dk2 : (i : Int) < (l.length : Int) := by omega
        obtain ⟨b, off, hA⟩ := HR.out.some_ hlt
        obtain rfl : Al = some ⟨b, off, none⟩ := hA
        have HXI := Lib.hid (List.getElem?_eq_getElem hlt)
        generalize l[i] = x at *
        obtain ⟨m1, hm1⟩ : ∃ v, mayV p x = v := ⟨_, rfl⟩
        obtain ⟨m2, hm2⟩ : ∃ v, mayV x p = v := ⟨_, rfl⟩
        have HM1 := Lib.hid hm1
        have HM2 := Lib.hid hm2
        clear hm1 hm2
        go_wp2_with fail
        have HQ := Lib.hid HQ.out.drew
        have HRi := Lib.hid HRi.out.drew
        have HP := Lib.hid HP.out.drew
        refine wp_region_held_drew (S := (fun w' => w'.cell? ⟨w.heap.size + 1, 0, none⟩ = some (.string p.id) ∧ w'.cell? ⟨w.heap.size + 1, 1, none⟩ = some (.int .i64 p.prio) ∧ w'.cell? ⟨w.heap.size + 1, 2, none⟩ = some (.bool p.crit) ∧ w'.cell? ⟨w.heap.size + 1, 3, none⟩ = some (.int .i64 p.q0) ∧ w'.cell? ⟨w.heap.size + 1, 4, none⟩ = some (.int .i64 p.q1) ∧ w'.cell? ⟨w.heap.size + 1, 5, none⟩ = some (.int .i64 p.q2) ∧ w'.cell? ⟨w.heap.size + 1, 6, none⟩ = some (.int .i64 p.l0) ∧ w'.cell? ⟨w.heap.size + 1, 7, none⟩ = some (.int .i64 p.l1) ∧ w'.cell? ⟨w.heap.size + 1, 8, none⟩ = some (.int .i64 p.l2) ∧ w'.cell? ⟨w.heap.size + 1, 9, none⟩ = some (.string p.image) ∧ w'.cell? ⟨w.heap.size + 1, 10, none⟩ = some (.int .i64 p.size) ∧ w'.cell? ⟨b, off + i * 11, none⟩ = some (.string x.id) ∧ w'.cell? ⟨b, off + i * 11 + 1, none⟩ = some (.int .i64 x.prio) ∧ w'.cell? ⟨b, off + i * 11 + 2, none⟩ = some (.bool x.crit) ∧ w'.cell? ⟨b, off + i * 11 + 3, none⟩ = some (.int .i64 x.q0) ∧ w'.cell? ⟨b, off + i * 11 + 4, none⟩ = some (.int .i64 x.q1) ∧ w'.cell? ⟨b, off + i * 11 + 5, none⟩ = some (.int .i64 x.q2) ∧ w'.cell? ⟨b, off + i * 11 + 6, none⟩ = some (.int .i64 x.l0) ∧ w'.cell? ⟨b, off + i * 11 + 7, none⟩ = some (.int .i64 x.l1) ∧ w'.cell? ⟨b, off + i * 11 + 8, none⟩ = some (.int .i64 x.l2) ∧ w'.cell? ⟨b, off + i * 11 + 9, none⟩ = some (.string x.image) ∧ w'.cell? ⟨b, off + i * 11 + 10, none⟩ = some (.int .i64 x.size))) (by kernel_rfl) (cpxCells HQ.out HRi.out HXI.out) (fun hHeld => ?_)
        refine held_take 0 28 (.agg #[.string p.id, .int .i64 p.prio, .bool p.crit, .int .i64 p.q0, .int .i64 p.q1, .int .i64 p.q2, .int .i64 p.l0, .int .i64 p.l1, .int .i64 p.l2, .string p.image, .int .i64 p.size]) rfl rfl (by kernel_rfl) (by kernel_rfl) (by kernel_rfl) (fun _ _ _ h => h) (by rfl) (by intro w' hSw; (try dsimp only at hSw); go_simp; (try (with_reducible rfl))) (by assumption) ?_
        simp only [Act.put, List.setIfInBounds_toArray, List.set_cons_zero, List.set_cons_succ]
        refine held_take 1 29 (.slice (some ⟨b, off, none⟩) l.length cl) rfl rfl (by kernel_rfl) (by kernel_rfl) (by kernel_rfl) (fun _ _ _ h => h) (by rfl) (by intro w' hSw; (try dsimp only at hSw); go_simp; (try (with_reducible rfl))) (by assumption) ?_
        simp only [Act.put, List.setIfInBounds_toArray, List.set_cons_zero, List.set_cons_succ]
        refine held_take 2 30 (.int .i64 i) rfl rfl (by kernel_rfl) (by kernel_rfl) (by kernel_rfl) (fun _ _ _ h => h) (by rfl) (by intro w' hSw; (try dsimp only at hSw); go_simp; (try (with_reducible rfl))) (by assumption) ?_
        simp only [Act.put, List.setIfInBounds_toArray, List.set_cons_zero, List.set_cons_succ]
        refine held_take 3 31 (.pointer (some ⟨b, off + i * 11, none⟩)) rfl rfl (by kernel_rfl) (by kernel_rfl) (by kernel_rfl) (fun _ _ _ h => h) (by rfl) (by intro w' hSw; (try dsimp only at hSw); go_simp; (try (with_reducible rfl))) (by assumption) ?_
        simp only [Act.put, List.setIfInBounds_toArray, List.set_cons_zero, List.set_cons_succ]
        refine held_take 4 32 (.agg #[.string x.id, .int .i64 x.prio, .bool x.crit, .int .i64 x.q0, .int .i64 x.q1, .int .i64 x.q2, .int .i64 x.l0, .int .i64 x.l1, .int .i64 x.l2, .string x.image, .int .i64 x.size]) rfl rfl (by kernel_rfl) (by kernel_rfl) (by kernel_rfl) (fun _ _ _ h => h) (by rfl) (by intro w' hSw; (try dsimp only at hSw); go_simp; (try (with_reducible rfl))) (by assumption) ?_
        simp only [Act.put, List.setIfInBounds_toArray, List.set_cons_zero, List.set_cons_succ]
        refine held_take 6 34 (.agg #[.string p.id, .int .i64 p.prio, .bool p.crit, .int .i64 p.q0, .int .i64 p.q1, .int .i64 p.q2, .int .i64 p.l0, .int .i64 p.l1, .int .i64 p.l2, .string p.image, .int .i64 p.size]) rfl rfl (by kernel_rfl) (by kernel_rfl) (by kernel_rfl) (fun _ _ _ h => h) (by rfl) (by intro w' hSw; (try dsimp only at hSw); go_simp; (try (with_reducible rfl))) (by assumption) ?_
        simp only [Act.put, List.setIfInBounds_toArray, List.set_cons_zero, List.set_cons_succ]
        refine held_take 7 35 (.slice (some ⟨b, off, none⟩) l.length cl) rfl rfl (by kernel_rfl) (by kernel_rfl) (by kernel_rfl) (fun _ _ _ h => h) (by rfl) (by intro w' hSw; (try dsimp only at hSw); go_simp; (try (with_reducible rfl))) (by assumption) ?_
        simp only [Act.put, List.setIfInBounds_toArray, List.set_cons_zero, List.set_cons_succ]
        refine held_take 8 36 (.int .i64 i) rfl rfl (by kernel_rfl) (by kernel_rfl) (by kernel_rfl) (fun _ _ _ h => h) (by rfl) (by intro w' hSw; (try dsimp only at hSw); go_simp; (try (with_reducible rfl))) (by assumption) ?_
        simp only [Act.put, List.setIfInBounds_toArray, List.set_cons_zero, List.set_cons_succ]
        refine held_take 9 37 (.pointer (some ⟨b, off + i * 11, none⟩)) rfl rfl (by kernel_rfl) (by kernel_rfl) (by kernel_rfl) (fun _ _ _ h => h) (by rfl) (by intro w' hSw; (try dsimp only at hSw); go_simp; (try (with_reducible rfl))) (by assumption) ?_
        simp only [Act.put, List.setIfInBounds_toArray, List.set_cons_zero, List.set_cons_succ]
        refine held_take 10 38 (.agg #[.string x.id, .int .i64 x.prio, .bool x.crit, .int .i64 x.q0, .int .i64 x.q1, .int .i64 x.q2, .int .i64 x.l0, .int .i64 x.l1, .int .i64 x.l2, .string x.image, .int .i64 x.size]) rfl rfl (by kernel_rfl) (by kernel_rfl) (by kernel_rfl) (fun _ _ _ h => h) (by rfl) (by intro w' hSw; (try dsimp only at hSw); go_simp; (try (with_reducible rfl))) (by assumption) ?_
        simp only [Act.put, List.setIfInBounds_toArray, List.set_cons_zero, List.set_cons_succ]
        refine held_call 5 33 rfl rfl (by kernel_rfl) (by rfl) (fun K hK => ?_)
        go_simp
        go_at_call 14; with_reducible refine (vmayV HM1.out _).mono ?_; rintro e v1 ⟨rfl, hb⟩
        have HP := Lib.hid (HP.out.trans (hb.mono HP.out.size))
        have HQ := Lib.hid (HQ.out.below hb)
        have HRi := Lib.hid (HRi.out.below hb)
        clear hb
        refine hK _ _ (cpxCells HQ.out HRi.out HXI.out) ?_
        have hHeld := (show v1.cell? ⟨w.heap.size + 1, 0, none⟩ = some (.string p.id) ∧ v1.cell? ⟨w.heap.size + 1, 1, none⟩ = some (.int .i64 p.prio) ∧ v1.cell? ⟨w.heap.size + 1, 2, none⟩ = some (.bool p.crit) ∧ v1.cell? ⟨w.heap.size + 1, 3, none⟩ = some (.int .i64 p.q0) ∧ v1.cell? ⟨w.heap.size + 1, 4, none⟩ = some (.int .i64 p.q1) ∧ v1.cell? ⟨w.heap.size + 1, 5, none⟩ = some (.int .i64 p.q2) ∧ v1.cell? ⟨w.heap.size + 1, 6, none⟩ = some (.int .i64 p.l0) ∧ v1.cell? ⟨w.heap.size + 1, 7, none⟩ = some (.int .i64 p.l1) ∧ v1.cell? ⟨w.heap.size + 1, 8, none⟩ = some (.int .i64 p.l2) ∧ v1.cell? ⟨w.heap.size + 1, 9, none⟩ = some (.string p.image) ∧ v1.cell? ⟨w.heap.size + 1, 10, none⟩ = some (.int .i64 p.size) ∧ v1.cell? ⟨b, off + i * 11, none⟩ = some (.string x.id) ∧ v1.cell? ⟨b, off + i * 11 + 1, none⟩ = some (.int .i64 x.prio) ∧ v1.cell? ⟨b, off + i * 11 + 2, none⟩ = some (.bool x.crit) ∧ v1.cell? ⟨b, off + i * 11 + 3, none⟩ = some (.int .i64 x.q0) ∧ v1.cell? ⟨b, off + i * 11 + 4, none⟩ = some (.int .i64 x.q1) ∧ v1.cell? ⟨b, off + i * 11 + 5, none⟩ = some (.int .i64 x.q2) ∧ v1.cell? ⟨b, off + i * 11 + 6, none⟩ = some (.int .i64 x.l0) ∧ v1.cell? ⟨b, off + i * 11 + 7, none⟩ = some (.int .i64 x.l1) ∧ v1.cell? ⟨b, off + i * 11 + 8, none⟩ = some (.int .i64 x.l2) ∧ v1.cell? ⟨b, off + i * 11 + 9, none⟩ = some (.string x.image) ∧ v1.cell? ⟨b, off + i * 11 + 10, none⟩ = some (.int .i64 x.size) from cpxCells HQ.out HRi.out HXI.out)
        clear hK K
        simp only [Act.put, List.setIfInBounds_toArray, List.set_cons_zero, List.set_cons_succ]
        refine held_call 11 39 rfl rfl (by kernel_rfl) (by rfl) (fun K hK => ?_)
        go_simp
        go_at_call 15; with_reducible refine (refVmayV HM1.out _).mono ?_; rintro e v2 ⟨rfl, hb⟩
        have HP := Lib.hid (HP.out.trans (hb.mono HP.out.size))
        have HQ := Lib.hid (HQ.out.below hb)
        have HRi := Lib.hid (HRi.out.below hb)
        clear hb
        refine hK _ _ (cpxCells HQ.out HRi.out HXI.out) ?_
        have hHeld := (show v2.cell? ⟨w.heap.size + 1, 0, none⟩ = some (.string p.id) ∧ v2.cell? ⟨w.heap.size + 1, 1, none⟩ = some (.int .i64 p.prio) ∧ v2.cell? ⟨w.heap.size + 1, 2, none⟩ = some (.bool p.crit) ∧ v2.cell? ⟨w.heap.size + 1, 3, none⟩ = some (.int .i64 p.q0) ∧ v2.cell? ⟨w.heap.size + 1, 4, none⟩ = some (.int .i64 p.q1) ∧ v2.cell? ⟨w.heap.size + 1, 5, none⟩ = some (.int .i64 p.q2) ∧ v2.cell? ⟨w.heap.size + 1, 6, none⟩ = some (.int .i64 p.l0) ∧ v2.cell? ⟨w.heap.size + 1, 7, none⟩ = some (.int .i64 p.l1) ∧ v2.cell? ⟨w.heap.size + 1, 8, none⟩ = some (.int .i64 p.l2) ∧ v2.cell? ⟨w.heap.size + 1, 9, none⟩ = some (.string p.image) ∧ v2.cell? ⟨w.heap.size + 1, 10, none⟩ = some (.int .i64 p.size) ∧ v2.cell? ⟨b, off + i * 11, none⟩ = some (.string x.id) ∧ v2.cell? ⟨b, off + i * 11 + 1, none⟩ = some (.int .i64 x.prio) ∧ v2.cell? ⟨b, off + i * 11 + 2, none⟩ = some (.bool x.crit) ∧ v2.cell? ⟨b, off + i * 11 + 3, none⟩ = some (.int .i64 x.q0) ∧ v2.cell? ⟨b, off + i * 11 + 4, none⟩ = some (.int .i64 x.q1) ∧ v2.cell? ⟨b, off + i * 11 + 5, none⟩ = some (.int .i64 x.q2) ∧ v2.cell? ⟨b, off + i * 11 + 6, none⟩ = some (.int .i64 x.l0) ∧ v2.cell? ⟨b, off + i * 11 + 7, none⟩ = some (.int .i64 x.l1) ∧ v2.cell? ⟨b, off + i * 11 + 8, none⟩ = some (.int .i64 x.l2) ∧ v2.cell? ⟨b, off + i * 11 + 9, none⟩ = some (.string x.image) ∧ v2.cell? ⟨b, off + i * 11 + 10, none⟩ = some (.int .i64 x.size) from cpxCells HQ.out HRi.out HXI.out)
        clear hK K
        simp only [Act.put, List.setIfInBounds_toArray, List.set_cons_zero, List.set_cons_succ]
        refine held_take 12 40 (.bool false) rfl rfl (by kernel_rfl) (by kernel_rfl) (by kernel_rfl) (fun _ _ _ h => h) (by rfl) (by intro w' hSw; (try dsimp only at hSw); go_simp; (first | done | with_reducible rfl | (cases m1 <;> rfl))) (by assumption) ?_
        simp only [Act.put, List.setIfInBounds_toArray, List.set_cons_zero, List.set_cons_succ]
        refine held_take 13 41 (.bool false) rfl rfl (by kernel_rfl) (by kernel_rfl) (by kernel_rfl) (fun _ _ _ h => h) (by rfl) (by intro w' hSw; (try dsimp only at hSw); go_simp; (try (with_reducible rfl))) (by assumption) ?_
        simp only [Act.put, List.setIfInBounds_toArray, List.set_cons_zero, List.set_cons_succ]
        refine held_take 14 42 (.slice (some ⟨b, off, none⟩) l.length cl) rfl rfl (by kernel_rfl) (by kernel_rfl) (by kernel_rfl) (fun _ _ _ h => h) (by rfl) (by intro w' hSw; (try dsimp only at hSw); go_simp; (try (with_reducible rfl))) (by assumption) ?_
        simp only [Act.put, List.setIfInBounds_toArray, List.set_cons_zero, List.set_cons_succ]
        refine held_take 15 43 (.int .i64 i) rfl rfl (by kernel_rfl) (by kernel_rfl) (by kernel_rfl) (fun _ _ _ h => h) (by rfl) (by intro w' hSw; (try dsimp only at hSw); go_simp; (try (with_reducible rfl))) (by assumption) ?_
        simp only [Act.put, List.setIfInBounds_toArray, List.set_cons_zero, List.set_cons_succ]
        refine held_take 16 44 (.pointer (some ⟨b, off + i * 11, none⟩)) rfl rfl (by kernel_rfl) (by kernel_rfl) (by kernel_rfl) (fun _ _ _ h => h) (by rfl) (by intro w' hSw; (try dsimp only at hSw); go_simp; (try (with_reducible rfl))) (by assumption) ?_
        simp only [Act.put, List.setIfInBounds_toArray, List.set_cons_zero, List.set_cons_succ]
        refine held_take 17 45 (.agg #[.string x.id, .int .i64 x.prio, .bool x.crit, .int .i64 x.q0, .int .i64 x.q1, .int .i64 x.q2, .int .i64 x.l0, .int .i64 x.l1, .int .i64 x.l2, .string x.image, .int .i64 x.size]) rfl rfl (by kernel_rfl) (by kernel_rfl) (by kernel_rfl) (fun _ _ _ h => h) (by rfl) (by intro w' hSw; (try dsimp only at hSw); go_simp; (try (with_reducible rfl))) (by assumption) ?_
        simp only [Act.put, List.setIfInBounds_toArray, List.set_cons_zero, List.set_cons_succ]
        refine held_take 18 46 (.agg #[.string p.id, .int .i64 p.prio, .bool p.crit, .int .i64 p.q0, .int .i64 p.q1, .int .i64 p.q2, .int .i64 p.l0, .int .i64 p.l1, .int .i64 p.l2, .string p.image, .int .i64 p.size]) rfl rfl (by kernel_rfl) (by kernel_rfl) (by kernel_rfl) (fun _ _ _ h => h) (by rfl) (by intro w' hSw; (try dsimp only at hSw); go_simp; (try (with_reducible rfl))) (by assumption) ?_
        simp only [Act.put, List.setIfInBounds_toArray, List.set_cons_zero, List.set_cons_succ]
        refine held_take 20 48 (.slice (some ⟨b, off, none⟩) l.length cl) rfl rfl (by kernel_rfl) (by kernel_rfl) (by kernel_rfl) (fun _ _ _ h => h) (by rfl) (by intro w' hSw; (try dsimp only at hSw); go_simp; (try (with_reducible rfl))) (by assumption) ?_
        simp only [Act.put, List.setIfInBounds_toArray, List.set_cons_zero, List.set_cons_succ]
        refine held_take 21 49 (.int .i64 i) rfl rfl (by kernel_rfl) (by kernel_rfl) (by kernel_rfl) (fun _ _ _ h => h) (by rfl) (by intro w' hSw; (try dsimp only at hSw); go_simp; (try (with_reducible rfl))) (by assumption) ?_
        simp only [Act.put, List.setIfInBounds_toArray, List.set_cons_zero, List.set_cons_succ]
        refine held_take 22 50 (.pointer (some ⟨b, off + i * 11, none⟩)) rfl rfl (by kernel_rfl) (by kernel_rfl) (by kernel_rfl) (fun _ _ _ h => h) (by rfl) (by intro w' hSw; (try dsimp only at hSw); go_simp; (try (with_reducible rfl))) (by assumption) ?_
        simp only [Act.put, List.setIfInBounds_toArray, List.set_cons_zero, List.set_cons_succ]
        refine held_take 23 51 (.agg #[.string x.id, .int .i64 x.prio, .bool x.crit, .int .i64 x.q0, .int .i64 x.q1, .int .i64 x.q2, .int .i64 x.l0, .int .i64 x.l1, .int .i64 x.l2, .string x.image, .int .i64 x.size]) rfl rfl (by kernel_rfl) (by kernel_rfl) (by kernel_rfl) (fun _ _ _ h => h) (by rfl) (by intro w' hSw; (try dsimp only at hSw); go_simp; (try (with_reducible rfl))) (by assumption) ?_
        simp only [Act.put, List.setIfInBounds_toArray, List.set_cons_zero, List.set_cons_succ]
        refine held_take 24 52 (.agg #[.string p.id, .int .i64 p.prio, .bool p.crit, .int .i64 p.q0, .int .i64 p.q1, .int .i64 p.q2, .int .i64 p.l0, .int .i64 p.l1, .int .i64 p.l2, .string p.image, .int .i64 p.size]) rfl rfl (by kernel_rfl) (by kernel_rfl) (by kernel_rfl) (fun _ _ _ h => h) (by rfl) (by intro w' hSw; (try dsimp only at hSw); go_simp; (try (with_reducible rfl))) (by assumption) ?_
        simp only [Act.put, List.setIfInBounds_toArray, List.set_cons_zero, List.set_cons_succ]
        refine held_call 19 47 rfl rfl (by kernel_rfl) (by rfl) (fun K hK => ?_)
        go_simp
        go_at_call 14; with_reducible refine (vmayV HM2.out _).mono ?_; rintro e v3 ⟨rfl, hb⟩
        have HP := Lib.hid (HP.out.trans (hb.mono HP.out.size))
        have HQ := Lib.hid (HQ.out.below hb)
        have HRi := Lib.hid (HRi.out.below hb)
        clear hb
        refine hK _ _ (cpxCells HQ.out HRi.out HXI.out) ?_
        have hHeld := (show v3.cell? ⟨w.heap.size + 1, 0, none⟩ = some (.string p.id) ∧ v3.cell? ⟨w.heap.size + 1, 1, none⟩ = some (.int .i64 p.prio) ∧ v3.cell? ⟨w.heap.size + 1, 2, none⟩ = some (.bool p.crit) ∧ v3.cell? ⟨w.heap.size + 1, 3, none⟩ = some (.int .i64 p.q0) ∧ v3.cell? ⟨w.heap.size + 1, 4, none⟩ = some (.int .i64 p.q1) ∧ v3.cell? ⟨w.heap.size + 1, 5, none⟩ = some (.int .i64 p.q2) ∧ v3.cell? ⟨w.heap.size + 1, 6, none⟩ = some (.int .i64 p.l0) ∧ v3.cell? ⟨w.heap.size + 1, 7, none⟩ = some (.int .i64 p.l1) ∧ v3.cell? ⟨w.heap.size + 1, 8, none⟩ = some (.int .i64 p.l2) ∧ v3.cell? ⟨w.heap.size + 1, 9, none⟩ = some (.string p.image) ∧ v3.cell? ⟨w.heap.size + 1, 10, none⟩ = some (.int .i64 p.size) ∧ v3.cell? ⟨b, off + i * 11, none⟩ = some (.string x.id) ∧ v3.cell? ⟨b, off + i * 11 + 1, none⟩ = some (.int .i64 x.prio) ∧ v3.cell? ⟨b, off + i * 11 + 2, none⟩ = some (.bool x.crit) ∧ v3.cell? ⟨b, off + i * 11 + 3, none⟩ = some (.int .i64 x.q0) ∧ v3.cell? ⟨b, off + i * 11 + 4, none⟩ = some (.int .i64 x.q1) ∧ v3.cell? ⟨b, off + i * 11 + 5, none⟩ = some (.int .i64 x.q2) ∧ v3.cell? ⟨b, off + i * 11 + 6, none⟩ = some (.int .i64 x.l0) ∧ v3.cell? ⟨b, off + i * 11 + 7, none⟩ = some (.int .i64 x.l1) ∧ v3.cell? ⟨b, off + i * 11 + 8, none⟩ = some (.int .i64 x.l2) ∧ v3.cell? ⟨b, off + i * 11 + 9, none⟩ = some (.string x.image) ∧ v3.cell? ⟨b, off + i * 11 + 10, none⟩ = some (.int .i64 x.size) from cpxCells HQ.out HRi.out HXI.out)
        clear hK K
        simp only [Act.put, List.setIfInBounds_toArray, List.set_cons_zero, List.set_cons_succ]
        refine held_call 25 53 rfl rfl (by kernel_rfl) (by rfl) (fun K hK => ?_)
        go_simp
        go_at_call 15; with_reducible refine (refVmayV HM2.out _).mono ?_; rintro e v4 ⟨rfl, hb⟩
        have HP := Lib.hid (HP.out.trans (hb.mono HP.out.size))
        have HQ := Lib.hid (HQ.out.below hb)
        have HRi := Lib.hid (HRi.out.below hb)
        clear hb
        refine hK _ _ (cpxCells HQ.out HRi.out HXI.out) ?_
        have hHeld := (show v4.cell? ⟨w.heap.size + 1, 0, none⟩ = some (.string p.id) ∧ v4.cell? ⟨w.heap.size + 1, 1, none⟩ = some (.int .i64 p.prio) ∧ v4.cell? ⟨w.heap.size + 1, 2, none⟩ = some (.bool p.crit) ∧ v4.cell? ⟨w.heap.size + 1, 3, none⟩ = some (.int .i64 p.q0) ∧ v4.cell? ⟨w.heap.size + 1, 4, none⟩ = some (.int .i64 p.q1) ∧ v4.cell? ⟨w.heap.size + 1, 5, none⟩ = some (.int .i64 p.q2) ∧ v4.cell? ⟨w.heap.size + 1, 6, none⟩ = some (.int .i64 p.l0) ∧ v4.cell? ⟨w.heap.size + 1, 7, none⟩ = some (.int .i64 p.l1) ∧ v4.cell? ⟨w.heap.size + 1, 8, none⟩ = some (.int .i64 p.l2) ∧ v4.cell? ⟨w.heap.size + 1, 9, none⟩ = some (.string p.image) ∧ v4.cell? ⟨w.heap.size + 1, 10, none⟩ = some (.int .i64 p.size) ∧ v4.cell? ⟨b, off + i * 11, none⟩ = some (.string x.id) ∧ v4.cell? ⟨b, off + i * 11 + 1, none⟩ = some (.int .i64 x.prio) ∧ v4.cell? ⟨b, off + i * 11 + 2, none⟩ = some (.bool x.crit) ∧ v4.cell? ⟨b, off + i * 11 + 3, none⟩ = some (.int .i64 x.q0) ∧ v4.cell? ⟨b, off + i * 11 + 4, none⟩ = some (.int .i64 x.q1) ∧ v4.cell? ⟨b, off + i * 11 + 5, none⟩ = some (.int .i64 x.q2) ∧ v4.cell? ⟨b, off + i * 11 + 6, none⟩ = some (.int .i64 x.l0) ∧ v4.cell? ⟨b, off + i * 11 + 7, none⟩ = some (.int .i64 x.l1) ∧ v4.cell? ⟨b, off + i * 11 + 8, none⟩ = some (.int .i64 x.l2) ∧ v4.cell? ⟨b, off + i * 11 + 9, none⟩ = some (.string x.image) ∧ v4.cell? ⟨b, off + i * 11 + 10, none⟩ = some (.int .i64 x.size) from cpxCells HQ.out HRi.out HXI.out)
        clear hK K
        simp only [Act.put, List.setIfInBounds_toArray, List.set_cons_zero, List.set_cons_succ]
        refine held_take 26 54 (.bool false) rfl rfl (by kernel_rfl) (by kernel_rfl) (by kernel_rfl) (fun _ _ _ h => h) (by rfl) (by intro w' hSw; (try dsimp only at hSw); go_simp; (first | done | with_reducible rfl | (cases m2 <;> rfl))) (by assumption) ?_
        simp only [Act.put, List.setIfInBounds_toArray, List.set_cons_zero, List.set_cons_succ]
        refine held_take 27 55 (.bool false) rfl rfl (by kernel_rfl) (by kernel_rfl) (by kernel_rfl) (fun _ _ _ h => h) (by rfl) (by intro w' hSw; (try dsimp only at hSw); go_simp; (try (with_reducible rfl))) (by assumption) ?_
        simp only [Act.put, List.setIfInBounds_toArray, List.set_cons_zero, List.set_cons_succ]
        refine wpAnyH_done (by kernel_rfl) ?_ _
        clear hHeld
        go_wp2_with fail
        go_roundw
        case rel => exact ⟨i + 1, by omega, by go_num, HP.out⟩
        case measure => simp [intOf]; omega
      · obtain rfl : i = l.length := by omega
        have dk : decide ((l.length : Int) < (l.length : Int)) = false := by simp
        have crm := HQ.out.rm.cell
        have cp := HQ.out.pb.cell
        go_wp2_with fail
        refine (chooseW (room := room) (p := p) Al cl _ HRi.out (by omega) HW.out HPW.out).mono ?_; rintro e w2 ⟨O, bb, Ax, cx, rfl, hwho, ho, hb⟩
        have HWH := Lib.hid hwho
        have hOl := hwho.len
        have HQ := Lib.hid (HQ.out.below hb)
        have HRi := Lib.hid (HRi.out.below hb)
        have HRX := Lib.hid ho.toRds
        clear hwho ho hb crm cp
        have crm := HQ.out.rm.cell
        have cp := HQ.out.pb.cell
        go_wp2_with fail
        refine (refChoose_any HF.out HWH.out Al cl _ HRi.out HW.out HPW.out).mono ?_; rintro e w3 ⟨Ay, cy, rfl, hry, hb⟩
        have HQ := Lib.hid (HQ.out.below hb)
        have HRi := Lib.hid (HRi.out.below hb)
        have HRX := Lib.hid (HRX.out.below hb)
        have HRY := Lib.hid hry
        clear hry hb crm cp
        obtain ⟨fv, hfv⟩ : ∃ v, fitsB room l = v := ⟨_, rfl⟩
        have HFV := Lib.hid hfv
        clear hfv
        go_wp2_with fail
        have HQ := Lib.hid HQ.out.drew
        have HRi := Lib.hid HRi.out.drew
        have HRX := Lib.hid HRX.out.drew
        have HRY := Lib.hid HRY.out.drew
        refine wp_region_held_drew (S := (fun w' => w'.cell? ⟨w.heap.size, 0, none⟩ = some (.int .i64 room.a) ∧ w'.cell? ⟨w.heap.size, 1, none⟩ = some (.int .i64 room.b) ∧ w'.cell? ⟨w.heap.size, 2, none⟩ = some (.int .i64 room.c))) (by kernel_rfl) (rmCells HQ.out) (fun hHeld => ?_)
        refine held_take 0 70 (.agg #[.int .i64 room.a, .int .i64 room.b, .int .i64 room.c]) rfl rfl (by kernel_rfl) (by kernel_rfl) (by kernel_rfl) (fun _ _ _ h => h) (by rfl) (by intro w' hSw; (try dsimp only at hSw); go_simp; (try (with_reducible rfl))) (by assumption) ?_
        simp only [Act.put, List.setIfInBounds_toArray, List.set_cons_zero, List.set_cons_succ]
        refine held_take 1 71 (.slice Al l.length cl) rfl rfl (by kernel_rfl) (by kernel_rfl) (by kernel_rfl) (fun _ _ _ h => h) (by rfl) (by intro w' hSw; (try dsimp only at hSw); go_simp; (try (with_reducible rfl))) (by assumption) ?_
        simp only [Act.put, List.setIfInBounds_toArray, List.set_cons_zero, List.set_cons_succ]
        refine held_take 3 73 (.agg #[.int .i64 room.a, .int .i64 room.b, .int .i64 room.c]) rfl rfl (by kernel_rfl) (by kernel_rfl) (by kernel_rfl) (fun _ _ _ h => h) (by rfl) (by intro w' hSw; (try dsimp only at hSw); go_simp; (try (with_reducible rfl))) (by assumption) ?_
        simp only [Act.put, List.setIfInBounds_toArray, List.set_cons_zero, List.set_cons_succ]
        refine held_take 4 74 (.slice Al l.length cl) rfl rfl (by kernel_rfl) (by kernel_rfl) (by kernel_rfl) (fun _ _ _ h => h) (by rfl) (by intro w' hSw; (try dsimp only at hSw); go_simp; (try (with_reducible rfl))) (by assumption) ?_
        simp only [Act.put, List.setIfInBounds_toArray, List.set_cons_zero, List.set_cons_succ]
        refine held_call 2 72 rfl rfl (by kernel_rfl) (by rfl) (fun K hK => ?_)
        go_simp
        go_at_call 18; with_reducible refine (fitsV HFV.out HRi.out HW.out (by omega)).mono ?_; rintro e v3 ⟨rfl, hb⟩
        have HQ := Lib.hid (HQ.out.below hb)
        have HRi := Lib.hid (HRi.out.below hb)
        have HRX := Lib.hid (HRX.out.below hb)
        have HRY := Lib.hid (HRY.out.below hb)
        clear hb
        refine hK _ _ (rmCells HQ.out) ?_
        have hHeld := (show v3.cell? ⟨w.heap.size, 0, none⟩ = some (.int .i64 room.a) ∧ v3.cell? ⟨w.heap.size, 1, none⟩ = some (.int .i64 room.b) ∧ v3.cell? ⟨w.heap.size, 2, none⟩ = some (.int .i64 room.c) from rmCells HQ.out)
        clear hK K
        simp only [Act.put, List.setIfInBounds_toArray, List.set_cons_zero, List.set_cons_succ]
        refine held_call 5 75 rfl rfl (by kernel_rfl) (by rfl) (fun K hK => ?_)
        go_simp
        go_at_call 19; with_reducible refine (refFitsV HFV.out HRi.out HW.out (by omega)).mono ?_; rintro e v4 ⟨rfl, hb⟩
        have HQ := Lib.hid (HQ.out.below hb)
        have HRi := Lib.hid (HRi.out.below hb)
        have HRX := Lib.hid (HRX.out.below hb)
        have HRY := Lib.hid (HRY.out.below hb)
        clear hb
        refine hK _ _ (rmCells HQ.out) ?_
        have hHeld := (show v4.cell? ⟨w.heap.size, 0, none⟩ = some (.int .i64 room.a) ∧ v4.cell? ⟨w.heap.size, 1, none⟩ = some (.int .i64 room.b) ∧ v4.cell? ⟨w.heap.size, 2, none⟩ = some (.int .i64 room.c) from rmCells HQ.out)
        clear hK K
        simp only [Act.put, List.setIfInBounds_toArray, List.set_cons_zero, List.set_cons_succ]
        refine held_take 6 76 (.bool true) rfl rfl (by kernel_rfl) (by kernel_rfl) (by kernel_rfl) (fun _ _ _ h => h) (by rfl) (by intro w' hSw; (try dsimp only at hSw); go_simp; (first | done | with_reducible rfl | (cases fv <;> rfl))) (by assumption) ?_
        simp only [Act.put, List.setIfInBounds_toArray, List.set_cons_zero, List.set_cons_succ]
        refine held_take 7 77 (.bool true) rfl rfl (by kernel_rfl) (by kernel_rfl) (by kernel_rfl) (fun _ _ _ h => h) (by rfl) (by intro w' hSw; (try dsimp only at hSw); go_simp; (try (with_reducible rfl))) (by assumption) ?_
        simp only [Act.put, List.setIfInBounds_toArray, List.set_cons_zero, List.set_cons_succ]
        refine held_take 8 78 (.bool bb) rfl rfl (by kernel_rfl) (by kernel_rfl) (by kernel_rfl) (fun _ _ _ h => h) (by rfl) (by intro w' hSw; (try dsimp only at hSw); go_simp; (try (with_reducible rfl))) (by assumption) ?_
        simp only [Act.put, List.setIfInBounds_toArray, List.set_cons_zero, List.set_cons_succ]
        refine held_take 9 79 (.bool bb) rfl rfl (by kernel_rfl) (by kernel_rfl) (by kernel_rfl) (fun _ _ _ h => h) (by rfl) (by intro w' hSw; (try dsimp only at hSw); go_simp; (try (with_reducible rfl))) (by assumption) ?_
        simp only [Act.put, List.setIfInBounds_toArray, List.set_cons_zero, List.set_cons_succ]
        refine held_take 10 80 (.bool true) rfl rfl (by kernel_rfl) (by kernel_rfl) (by kernel_rfl) (fun _ _ _ h => h) (by rfl) (by intro w' hSw; (try dsimp only at hSw); go_simp; (first | done | with_reducible rfl | (cases bb <;> rfl))) (by assumption) ?_
        simp only [Act.put, List.setIfInBounds_toArray, List.set_cons_zero, List.set_cons_succ]
        refine held_take 11 81 (.bool true) rfl rfl (by kernel_rfl) (by kernel_rfl) (by kernel_rfl) (fun _ _ _ h => h) (by rfl) (by intro w' hSw; (try dsimp only at hSw); go_simp; (try (with_reducible rfl))) (by assumption) ?_
        simp only [Act.put, List.setIfInBounds_toArray, List.set_cons_zero, List.set_cons_succ]
        refine held_take 12 82 (.bool true) rfl rfl (by kernel_rfl) (by kernel_rfl) (by kernel_rfl) (fun _ _ _ h => h) (by rfl) (by intro w' hSw; (try dsimp only at hSw); go_simp; (try (with_reducible rfl))) (by assumption) ?_
        simp only [Act.put, List.setIfInBounds_toArray, List.set_cons_zero, List.set_cons_succ]
        refine held_take 13 83 (.slice Ax O.length cx) rfl rfl (by kernel_rfl) (by kernel_rfl) (by kernel_rfl) (fun _ _ _ h => h) (by rfl) (by intro w' hSw; (try dsimp only at hSw); go_simp; (try (with_reducible rfl))) (by assumption) ?_
        simp only [Act.put, List.setIfInBounds_toArray, List.set_cons_zero, List.set_cons_succ]
        refine held_take 14 84 (.slice Ay O.length cy) rfl rfl (by kernel_rfl) (by kernel_rfl) (by kernel_rfl) (fun _ _ _ h => h) (by rfl) (by intro w' hSw; (try dsimp only at hSw); go_simp; (try (with_reducible rfl))) (by assumption) ?_
        simp only [Act.put, List.setIfInBounds_toArray, List.set_cons_zero, List.set_cons_succ]
        refine held_call 15 85 rfl rfl (by kernel_rfl) (by rfl) (fun K hK => ?_)
        go_simp
        go_at_call 20; with_reducible refine (sameV O Ax Ay cx cy _ HRX.out HRY.out (by omega)).mono ?_; rintro e v5 ⟨rfl, hb⟩
        have HQ := Lib.hid (HQ.out.below hb)
        clear hb
        refine hK _ _ (rmCells HQ.out) ?_
        have hHeld := (show v5.cell? ⟨w.heap.size, 0, none⟩ = some (.int .i64 room.a) ∧ v5.cell? ⟨w.heap.size, 1, none⟩ = some (.int .i64 room.b) ∧ v5.cell? ⟨w.heap.size, 2, none⟩ = some (.int .i64 room.c) from rmCells HQ.out)
        clear hK K
        simp only [Act.put, List.setIfInBounds_toArray, List.set_cons_zero, List.set_cons_succ]
        refine held_take 16 86 (.bool true) rfl rfl (by kernel_rfl) (by kernel_rfl) (by kernel_rfl) (fun _ _ _ h => h) (by rfl) (by intro w' hSw; (try dsimp only at hSw); go_simp; (try (with_reducible rfl))) (by assumption) ?_
        simp only [Act.put, List.setIfInBounds_toArray, List.set_cons_zero, List.set_cons_succ]
        refine held_take 17 6 (.bool true) rfl rfl (by kernel_rfl) (by kernel_rfl) (by kernel_rfl) (fun _ _ _ h => h) (by rfl) (by intro w' hSw; (try dsimp only at hSw); go_simp; (try (with_reducible rfl))) (by assumption) ?_
        simp only [Act.put, List.setIfInBounds_toArray, List.set_cons_zero, List.set_cons_succ]
        refine wpAnyH_done (by kernel_rfl) ?_ _
        clear hHeld
        go_wp2_with fail
        go_ret
        exact ⟨rfl, HQ.out.bel⟩
end Go.Proofs.Ytabbkembpghfdaa
