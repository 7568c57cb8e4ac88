/- bilgeref21.next: of those that may go and weren't asked, the one that is asked first. -/
import Derived.Test.YtlhmhcidknadmaaGreatDoorVFixed
namespace Go.Proofs.YtlhmhcidknadmaaGreatDoor
open Go.RowKit

theorem BestAt.cases_ {q : Pd → Bool} {l : List Pd} {k : Nat} {z : Int} (h : BestAt q l k z) : z = -1 ∨ ∃ j, j < l.length ∧ z = (j : Int) := by
  rcases h with ⟨h, _⟩ | ⟨j, hj, h, _⟩
  · exact .inl h
  · exact .inr ⟨j, hj, h⟩
theorem vlt_no {x y : Pd} (h1 : ¬ y.prio < x.prio) (h2 : x.prio = y.prio → blt x.id y.id = false) : vlt x y = false := by
  cases h : vlt x y
  · rfl
  · rcases (vlt_iff x y).1 h with h3 | ⟨h3, h4⟩
    · exact absurd h3 h1
    · rw [h2 h3] at h4; cases h4
theorem hasV {l : List ByteArray} {s : ByteArray} {v : Bool} (hv : hasD l s = v) (A : Option Addr) (c : Nat) (w : World) (hr : Rds w encS A l) (hl : l.length ≤ 9223372036854775807) :
    Calls Tryz.prog 50 #[.slice A l.length c, .string s] w fun e w' => e = .returned (.bool v) ∧ w = w' := by subst hv; exact has_any l s A c w hr hl
set_option maxRecDepth 100000 in
set_option maxHeartbeats 16000000 in
theorem next_any (p : Pd) (l : List Pd) (asked : List ByteArray) (A B : Option Addr) (c d : Nat) (w : World) (hr : Rds w encP A l) (hra : Rds w encS B asked) (hn : l.length ≤ 50000) (ha : asked.length ≤ 50000) :
    Calls Tryz.prog 35 #[.slice A l.length c, .agg p.cells, .slice B asked.length d] w fun e w' => ∃ z : Int, e = .returned (.int .i64 z) ∧ BestAt (fun v => mayV p v && !hasD asked v.id) l l.length z ∧ Below w.heap.size w w' := by
  have HQ := Lib.hid (GQ.new p w)
  have HR := Lib.hid hr
  have HRA := Lib.hid (hra.below HQ.out.bel)
  have HRL := Lib.hid (hr.below HQ.out.bel)
  clear hr hra
  go_enter Tryz.func35, Tryz.ntmps35
  go_wp2_with fail
  generalize (w.alloc (.cells #[.string p.id, .int .i64 p.prio, .bool p.crit, .int .i64 p.q0, .int .i64 p.q1, .int .i64 p.q2, .int .i64 p.l0, .int .i64 p.l1, .int .i64 p.l2, .string p.image, .int .i64 p.size] 29)) = w1 at *
  go_loopw [7, 8] (fun bs ii wr => ∃ (i : Nat) (z : Int), i ≤ l.length ∧ bs = .int .i64 z ∧ ii = .int .i64 i ∧ BestAt (fun v => mayV p v && !hasD asked v.id) l i z ∧ Below w1.heap.size w1 wr) (fun _ ii _ => l.length - (intOf ii).toNat)
  case atStart => exact ⟨0, -1, by omega, rfl, rfl, BestAt.start _ _, Below.refl _ _⟩
  case round =>
    obtain ⟨i, z, hi, rfl, rfl, hbest, hbl⟩ := hrel
    have HBA := Lib.hid hbest
    have HP := Lib.hid hbl
    have HQ1 := HQ
    have HQ := Lib.hid (HQ.out.below hbl)
    have HRi := Lib.hid (HRL.out.below hbl)
    have HRA := Lib.hid (HRA.out.below hbl)
    clear hbest hbl
    by_cases hlt : i < l.length
    · have dk : decide ((i : Int) < (l.length : Int)) = true := decide_eq_true (by omega)
      have dk2 : (i : Int) < (l.length : Int) := by omega
      obtain ⟨b, off, hA⟩ := HR.out.some_ hlt
      obtain rfl : A = some ⟨b, off, none⟩ := hA
      have HXI := Lib.hid (List.getElem?_eq_getElem hlt)
      obtain ⟨x, hx⟩ : ∃ x, l[i] = x := ⟨_, rfl⟩
      have HXE := Lib.hid hx
      rw [hx] at HXI
      clear hx
      cases hmx : mayV p x
      · have HM := Lib.hid hmx
        have HN := Lib.hid (HBA.out.skip hlt (by rw [HXE.out]; show (mayV p x && !hasD asked x.id) = false; rw [hmx]; rfl))
        clear hmx
        go_wp2_with fail
        have HQd := Lib.hid HQ.out.drew
        have HRd := Lib.hid HRi.out.drew
        have HRAd := Lib.hid HRA.out.drew
        obtain ⟨q0, q1, q2, q3, q4, q5, q6, q7, q8, q9, q10⟩ := HQd.out.pb.pd
        obtain ⟨x0, x1, x2, x3, x4, x5, x6, x7, x8, x9, x10⟩ := HRd.out.pdAt (Below.refl _ _) HXI.out
        refine wp_region_held_drew (S := (fun w' => w'.cell? ⟨w.heap.size, 0, none⟩ = some (.string p.id) ∧ w'.cell? ⟨w.heap.size, 1, none⟩ = some (.int .i64 p.prio) ∧ w'.cell? ⟨w.heap.size, 2, none⟩ = some (.bool p.crit) ∧ w'.cell? ⟨w.heap.size, 3, none⟩ = some (.int .i64 p.q0) ∧ w'.cell? ⟨w.heap.size, 4, none⟩ = some (.int .i64 p.q1) ∧ w'.cell? ⟨w.heap.size, 5, none⟩ = some (.int .i64 p.q2) ∧ w'.cell? ⟨w.heap.size, 6, none⟩ = some (.int .i64 p.l0) ∧ w'.cell? ⟨w.heap.size, 7, none⟩ = some (.int .i64 p.l1) ∧ w'.cell? ⟨w.heap.size, 8, none⟩ = some (.int .i64 p.l2) ∧ w'.cell? ⟨w.heap.size, 9, none⟩ = some (.string p.image) ∧ w'.cell? ⟨w.heap.size, 10, none⟩ = some (.int .i64 p.size) ∧ w'.cell? ⟨b, off + i * 11, none⟩ = some (.string x.id) ∧ w'.cell? ⟨b, off + i * 11 + 1, none⟩ = some (.int .i64 x.prio) ∧ w'.cell? ⟨b, off + i * 11 + 2, none⟩ = some (.bool x.crit) ∧ w'.cell? ⟨b, off + i * 11 + 3, none⟩ = some (.int .i64 x.q0) ∧ w'.cell? ⟨b, off + i * 11 + 4, none⟩ = some (.int .i64 x.q1) ∧ w'.cell? ⟨b, off + i * 11 + 5, none⟩ = some (.int .i64 x.q2) ∧ w'.cell? ⟨b, off + i * 11 + 6, none⟩ = some (.int .i64 x.l0) ∧ w'.cell? ⟨b, off + i * 11 + 7, none⟩ = some (.int .i64 x.l1) ∧ w'.cell? ⟨b, off + i * 11 + 8, none⟩ = some (.int .i64 x.l2) ∧ w'.cell? ⟨b, off + i * 11 + 9, none⟩ = some (.string x.image) ∧ w'.cell? ⟨b, off + i * 11 + 10, none⟩ = some (.int .i64 x.size))) (by kernel_rfl) (⟨q0, q1, q2, q3, q4, q5, q6, q7, q8, q9, q10, x0, x1, x2, x3, x4, x5, x6, x7, x8, x9, x10⟩) (fun hHeld => ?_)
        clear q0 q1 q2 q3 q4 q5 q6 q7 q8 q9 q10 x0 x1 x2 x3 x4 x5 x6 x7 x8 x9 x10
        refine held_take 0 15 (.agg #[.string p.id, .int .i64 p.prio, .bool p.crit, .int .i64 p.q0, .int .i64 p.q1, .int .i64 p.q2, .int .i64 p.l0, .int .i64 p.l1, .int .i64 p.l2, .string p.image, .int .i64 p.size]) rfl rfl (by kernel_rfl) (by kernel_rfl) (by kernel_rfl) (fun _ _ _ h => h) (by rfl) (by intro w' hSw; (try dsimp only at hSw); go_simp; (try (with_reducible rfl))) (by assumption) ?_
        simp only [Act.put, List.setIfInBounds_toArray, List.set_cons_zero, List.set_cons_succ]
        refine held_take 1 16 (.slice (some ⟨b, off, none⟩) l.length c) rfl rfl (by kernel_rfl) (by kernel_rfl) (by kernel_rfl) (fun _ _ _ h => h) (by rfl) (by intro w' hSw; (try dsimp only at hSw); go_simp; (try (with_reducible rfl))) (by assumption) ?_
        simp only [Act.put, List.setIfInBounds_toArray, List.set_cons_zero, List.set_cons_succ]
        refine held_take 2 17 (.int .i64 i) rfl rfl (by kernel_rfl) (by kernel_rfl) (by kernel_rfl) (fun _ _ _ h => h) (by rfl) (by intro w' hSw; (try dsimp only at hSw); go_simp; (try (with_reducible rfl))) (by assumption) ?_
        simp only [Act.put, List.setIfInBounds_toArray, List.set_cons_zero, List.set_cons_succ]
        refine held_take 3 18 (.pointer (some ⟨b, off + i * 11, none⟩)) rfl rfl (by kernel_rfl) (by kernel_rfl) (by kernel_rfl) (fun _ _ _ h => h) (by rfl) (by intro w' hSw; (try dsimp only at hSw); go_simp; (try (with_reducible rfl))) (by assumption) ?_
        simp only [Act.put, List.setIfInBounds_toArray, List.set_cons_zero, List.set_cons_succ]
        refine held_take 4 19 (.agg #[.string x.id, .int .i64 x.prio, .bool x.crit, .int .i64 x.q0, .int .i64 x.q1, .int .i64 x.q2, .int .i64 x.l0, .int .i64 x.l1, .int .i64 x.l2, .string x.image, .int .i64 x.size]) rfl rfl (by kernel_rfl) (by kernel_rfl) (by kernel_rfl) (fun _ _ _ h => h) (by rfl) (by intro w' hSw; (try dsimp only at hSw); go_simp; (try (with_reducible rfl))) (by assumption) ?_
        simp only [Act.put, List.setIfInBounds_toArray, List.set_cons_zero, List.set_cons_succ]
        refine held_call 5 20 rfl rfl (by kernel_rfl) (by rfl) (fun K hK => ?_)
        go_simp
        go_at_call 49; with_reducible refine (refVmayV HM.out _).mono ?_; rintro e v1 ⟨rfl, hb⟩
        have HP := Lib.hid (HP.out.drew.trans (hb.mono HP.out.drew.size))
        have HQ := Lib.hid (HQd.out.below hb)
        have HRi := Lib.hid (HRd.out.below hb)
        have HRA := Lib.hid (HRAd.out.below hb)
        clear hb
        obtain ⟨q0, q1, q2, q3, q4, q5, q6, q7, q8, q9, q10⟩ := HQ.out.pb.pd
        obtain ⟨x0, x1, x2, x3, x4, x5, x6, x7, x8, x9, x10⟩ := HRi.out.pdAt (Below.refl _ _) HXI.out
        refine hK _ _ (⟨q0, q1, q2, q3, q4, q5, q6, q7, q8, q9, q10, x0, x1, x2, x3, x4, x5, x6, x7, x8, x9, x10⟩) ?_
        have hHeld := (show v1.cell? ⟨w.heap.size, 0, none⟩ = some (.string p.id) ∧ v1.cell? ⟨w.heap.size, 1, none⟩ = some (.int .i64 p.prio) ∧ v1.cell? ⟨w.heap.size, 2, none⟩ = some (.bool p.crit) ∧ v1.cell? ⟨w.heap.size, 3, none⟩ = some (.int .i64 p.q0) ∧ v1.cell? ⟨w.heap.size, 4, none⟩ = some (.int .i64 p.q1) ∧ v1.cell? ⟨w.heap.size, 5, none⟩ = some (.int .i64 p.q2) ∧ v1.cell? ⟨w.heap.size, 6, none⟩ = some (.int .i64 p.l0) ∧ v1.cell? ⟨w.heap.size, 7, none⟩ = some (.int .i64 p.l1) ∧ v1.cell? ⟨w.heap.size, 8, none⟩ = some (.int .i64 p.l2) ∧ v1.cell? ⟨w.heap.size, 9, none⟩ = some (.string p.image) ∧ v1.cell? ⟨w.heap.size, 10, none⟩ = some (.int .i64 p.size) ∧ v1.cell? ⟨b, off + i * 11, none⟩ = some (.string x.id) ∧ v1.cell? ⟨b, off + i * 11 + 1, none⟩ = some (.int .i64 x.prio) ∧ v1.cell? ⟨b, off + i * 11 + 2, none⟩ = some (.bool x.crit) ∧ v1.cell? ⟨b, off + i * 11 + 3, none⟩ = some (.int .i64 x.q0) ∧ v1.cell? ⟨b, off + i * 11 + 4, none⟩ = some (.int .i64 x.q1) ∧ v1.cell? ⟨b, off + i * 11 + 5, none⟩ = some (.int .i64 x.q2) ∧ v1.cell? ⟨b, off + i * 11 + 6, none⟩ = some (.int .i64 x.l0) ∧ v1.cell? ⟨b, off + i * 11 + 7, none⟩ = some (.int .i64 x.l1) ∧ v1.cell? ⟨b, off + i * 11 + 8, none⟩ = some (.int .i64 x.l2) ∧ v1.cell? ⟨b, off + i * 11 + 9, none⟩ = some (.string x.image) ∧ v1.cell? ⟨b, off + i * 11 + 10, none⟩ = some (.int .i64 x.size) from ⟨q0, q1, q2, q3, q4, q5, q6, q7, q8, q9, q10, x0, x1, x2, x3, x4, x5, x6, x7, x8, x9, x10⟩)
        clear hK K q0 q1 q2 q3 q4 q5 q6 q7 q8 q9 q10 x0 x1 x2 x3 x4 x5 x6 x7 x8 x9 x10
        simp only [Act.put, List.setIfInBounds_toArray, List.set_cons_zero, List.set_cons_succ]
        refine held_take 6 21 (.bool true) rfl rfl (by kernel_rfl) (by kernel_rfl) (by kernel_rfl) (fun _ _ _ h => h) (by rfl) (by intro w' hSw; (try dsimp only at hSw); go_simp; (try (with_reducible rfl))) (by assumption) ?_
        simp only [Act.put, List.setIfInBounds_toArray, List.set_cons_zero, List.set_cons_succ]
        refine held_take 7 22 (.bool true) rfl rfl (by kernel_rfl) (by kernel_rfl) (by kernel_rfl) (fun _ _ _ h => h) (by rfl) (by intro w' hSw; (try dsimp only at hSw); go_simp; (try (with_reducible rfl))) (by assumption) ?_
        simp only [Act.put, List.setIfInBounds_toArray, List.set_cons_zero, List.set_cons_succ]
        refine held_skip 8 23 rfl rfl (by kernel_rfl) (by kernel_rfl) (by kernel_rfl) (fun _ _ _ h => h) (by rfl) (by assumption) ?_
        simp only [Act.put, List.setIfInBounds_toArray, List.set_cons_zero, List.set_cons_succ]
        refine held_skip 9 24 rfl rfl (by kernel_rfl) (by kernel_rfl) (by kernel_rfl) (fun _ _ _ h => h) (by rfl) (by assumption) ?_
        simp only [Act.put, List.setIfInBounds_toArray, List.set_cons_zero, List.set_cons_succ]
        refine held_skip 10 25 rfl rfl (by kernel_rfl) (by kernel_rfl) (by kernel_rfl) (fun _ _ _ h => h) (by rfl) (by assumption) ?_
        simp only [Act.put, List.setIfInBounds_toArray, List.set_cons_zero, List.set_cons_succ]
        refine held_skip 11 26 rfl rfl (by kernel_rfl) (by kernel_rfl) (by kernel_rfl) (fun _ _ _ h => h) (by rfl) (by assumption) ?_
        simp only [Act.put, List.setIfInBounds_toArray, List.set_cons_zero, List.set_cons_succ]
        refine held_skip 12 27 rfl rfl (by kernel_rfl) (by kernel_rfl) (by kernel_rfl) (fun _ _ _ h => h) (by rfl) (by assumption) ?_
        simp only [Act.put, List.setIfInBounds_toArray, List.set_cons_zero, List.set_cons_succ]
        refine held_skip 13 28 rfl rfl (by kernel_rfl) (by kernel_rfl) (by kernel_rfl) (fun _ _ _ h => h) (by rfl) (by assumption) ?_
        simp only [Act.put, List.setIfInBounds_toArray, List.set_cons_zero, List.set_cons_succ]
        refine held_skip 14 29 rfl rfl (by kernel_rfl) (by kernel_rfl) (by kernel_rfl) (fun _ _ _ h => h) (by rfl) (by assumption) ?_
        simp only [Act.put, List.setIfInBounds_toArray, List.set_cons_zero, List.set_cons_succ]
        refine held_take 15 30 (.bool true) rfl rfl (by kernel_rfl) (by kernel_rfl) (by kernel_rfl) (fun _ _ _ h => h) (by rfl) (by intro w' hSw; (try dsimp only at hSw); go_simp; (try (with_reducible rfl))) (by assumption) ?_
        simp only [Act.put, List.setIfInBounds_toArray, List.set_cons_zero, List.set_cons_succ]
        refine wpAnyH_done (by kernel_rfl) ?_ _
        clear hHeld
        go_wp2_with fail
        go_roundw
        case rel => exact ⟨i + 1, z, by omega, rfl, by go_num, HN.out, HP.out⟩
        case measure => simp [intOf]; omega
      · have HM := Lib.hid hmx
        clear hmx
        cases hhx : hasD asked x.id
        rotate_left
        · have HH := Lib.hid hhx
          have HN := Lib.hid (HBA.out.skip hlt (by rw [HXE.out]; show (mayV p x && !hasD asked x.id) = false; rw [HM.out, hhx]; rfl))
          clear hhx
          go_wp2_with fail
          have HQd := Lib.hid HQ.out.drew
          have HRd := Lib.hid HRi.out.drew
          have HRAd := Lib.hid HRA.out.drew
          obtain ⟨q0, q1, q2, q3, q4, q5, q6, q7, q8, q9, q10⟩ := HQd.out.pb.pd
          obtain ⟨x0, x1, x2, x3, x4, x5, x6, x7, x8, x9, x10⟩ := HRd.out.pdAt (Below.refl _ _) HXI.out
          refine wp_region_held_drew (S := (fun w' => w'.cell? ⟨w.heap.size, 0, none⟩ = some (.string p.id) ∧ w'.cell? ⟨w.heap.size, 1, none⟩ = some (.int .i64 p.prio) ∧ w'.cell? ⟨w.heap.size, 2, none⟩ = some (.bool p.crit) ∧ w'.cell? ⟨w.heap.size, 3, none⟩ = some (.int .i64 p.q0) ∧ w'.cell? ⟨w.heap.size, 4, none⟩ = some (.int .i64 p.q1) ∧ w'.cell? ⟨w.heap.size, 5, none⟩ = some (.int .i64 p.q2) ∧ w'.cell? ⟨w.heap.size, 6, none⟩ = some (.int .i64 p.l0) ∧ w'.cell? ⟨w.heap.size, 7, none⟩ = some (.int .i64 p.l1) ∧ w'.cell? ⟨w.heap.size, 8, none⟩ = some (.int .i64 p.l2) ∧ w'.cell? ⟨w.heap.size, 9, none⟩ = some (.string p.image) ∧ w'.cell? ⟨w.heap.size, 10, none⟩ = some (.int .i64 p.size) ∧ w'.cell? ⟨b, off + i * 11, none⟩ = some (.string x.id) ∧ w'.cell? ⟨b, off + i * 11 + 1, none⟩ = some (.int .i64 x.prio) ∧ w'.cell? ⟨b, off + i * 11 + 2, none⟩ = some (.bool x.crit) ∧ w'.cell? ⟨b, off + i * 11 + 3, none⟩ = some (.int .i64 x.q0) ∧ w'.cell? ⟨b, off + i * 11 + 4, none⟩ = some (.int .i64 x.q1) ∧ w'.cell? ⟨b, off + i * 11 + 5, none⟩ = some (.int .i64 x.q2) ∧ w'.cell? ⟨b, off + i * 11 + 6, none⟩ = some (.int .i64 x.l0) ∧ w'.cell? ⟨b, off + i * 11 + 7, none⟩ = some (.int .i64 x.l1) ∧ w'.cell? ⟨b, off + i * 11 + 8, none⟩ = some (.int .i64 x.l2) ∧ w'.cell? ⟨b, off + i * 11 + 9, none⟩ = some (.string x.image) ∧ w'.cell? ⟨b, off + i * 11 + 10, none⟩ = some (.int .i64 x.size))) (by kernel_rfl) (⟨q0, q1, q2, q3, q4, q5, q6, q7, q8, q9, q10, x0, x1, x2, x3, x4, x5, x6, x7, x8, x9, x10⟩) (fun hHeld => ?_)
          clear q0 q1 q2 q3 q4 q5 q6 q7 q8 q9 q10 x0 x1 x2 x3 x4 x5 x6 x7 x8 x9 x10
          refine held_take 0 15 (.agg #[.string p.id, .int .i64 p.prio, .bool p.crit, .int .i64 p.q0, .int .i64 p.q1, .int .i64 p.q2, .int .i64 p.l0, .int .i64 p.l1, .int .i64 p.l2, .string p.image, .int .i64 p.size]) rfl rfl (by kernel_rfl) (by kernel_rfl) (by kernel_rfl) (fun _ _ _ h => h) (by rfl) (by intro w' hSw; (try dsimp only at hSw); go_simp; (try (with_reducible rfl))) (by assumption) ?_
          simp only [Act.put, List.setIfInBounds_toArray, List.set_cons_zero, List.set_cons_succ]
          refine held_take 1 16 (.slice (some ⟨b, off, none⟩) l.length c) rfl rfl (by kernel_rfl) (by kernel_rfl) (by kernel_rfl) (fun _ _ _ h => h) (by rfl) (by intro w' hSw; (try dsimp only at hSw); go_simp; (try (with_reducible rfl))) (by assumption) ?_
          simp only [Act.put, List.setIfInBounds_toArray, List.set_cons_zero, List.set_cons_succ]
          refine held_take 2 17 (.int .i64 i) rfl rfl (by kernel_rfl) (by kernel_rfl) (by kernel_rfl) (fun _ _ _ h => h) (by rfl) (by intro w' hSw; (try dsimp only at hSw); go_simp; (try (with_reducible rfl))) (by assumption) ?_
          simp only [Act.put, List.setIfInBounds_toArray, List.set_cons_zero, List.set_cons_succ]
          refine held_take 3 18 (.pointer (some ⟨b, off + i * 11, none⟩)) rfl rfl (by kernel_rfl) (by kernel_rfl) (by kernel_rfl) (fun _ _ _ h => h) (by rfl) (by intro w' hSw; (try dsimp only at hSw); go_simp; (try (with_reducible rfl))) (by assumption) ?_
          simp only [Act.put, List.setIfInBounds_toArray, List.set_cons_zero, List.set_cons_succ]
          refine held_take 4 19 (.agg #[.string x.id, .int .i64 x.prio, .bool x.crit, .int .i64 x.q0, .int .i64 x.q1, .int .i64 x.q2, .int .i64 x.l0, .int .i64 x.l1, .int .i64 x.l2, .string x.image, .int .i64 x.size]) rfl rfl (by kernel_rfl) (by kernel_rfl) (by kernel_rfl) (fun _ _ _ h => h) (by rfl) (by intro w' hSw; (try dsimp only at hSw); go_simp; (try (with_reducible rfl))) (by assumption) ?_
          simp only [Act.put, List.setIfInBounds_toArray, List.set_cons_zero, List.set_cons_succ]
          refine held_call 5 20 rfl rfl (by kernel_rfl) (by rfl) (fun K hK => ?_)
          go_simp
          go_at_call 49; with_reducible refine (refVmayV HM.out _).mono ?_; rintro e v1 ⟨rfl, hb⟩
          have HP := Lib.hid (HP.out.drew.trans (hb.mono HP.out.drew.size))
          have HQ := Lib.hid (HQd.out.below hb)
          have HRi := Lib.hid (HRd.out.below hb)
          have HRA := Lib.hid (HRAd.out.below hb)
          clear hb
          obtain ⟨q0, q1, q2, q3, q4, q5, q6, q7, q8, q9, q10⟩ := HQ.out.pb.pd
          obtain ⟨x0, x1, x2, x3, x4, x5, x6, x7, x8, x9, x10⟩ := HRi.out.pdAt (Below.refl _ _) HXI.out
          refine hK _ _ (⟨q0, q1, q2, q3, q4, q5, q6, q7, q8, q9, q10, x0, x1, x2, x3, x4, x5, x6, x7, x8, x9, x10⟩) ?_
          have hHeld := (show v1.cell? ⟨w.heap.size, 0, none⟩ = some (.string p.id) ∧ v1.cell? ⟨w.heap.size, 1, none⟩ = some (.int .i64 p.prio) ∧ v1.cell? ⟨w.heap.size, 2, none⟩ = some (.bool p.crit) ∧ v1.cell? ⟨w.heap.size, 3, none⟩ = some (.int .i64 p.q0) ∧ v1.cell? ⟨w.heap.size, 4, none⟩ = some (.int .i64 p.q1) ∧ v1.cell? ⟨w.heap.size, 5, none⟩ = some (.int .i64 p.q2) ∧ v1.cell? ⟨w.heap.size, 6, none⟩ = some (.int .i64 p.l0) ∧ v1.cell? ⟨w.heap.size, 7, none⟩ = some (.int .i64 p.l1) ∧ v1.cell? ⟨w.heap.size, 8, none⟩ = some (.int .i64 p.l2) ∧ v1.cell? ⟨w.heap.size, 9, none⟩ = some (.string p.image) ∧ v1.cell? ⟨w.heap.size, 10, none⟩ = some (.int .i64 p.size) ∧ v1.cell? ⟨b, off + i * 11, none⟩ = some (.string x.id) ∧ v1.cell? ⟨b, off + i * 11 + 1, none⟩ = some (.int .i64 x.prio) ∧ v1.cell? ⟨b, off + i * 11 + 2, none⟩ = some (.bool x.crit) ∧ v1.cell? ⟨b, off + i * 11 + 3, none⟩ = some (.int .i64 x.q0) ∧ v1.cell? ⟨b, off + i * 11 + 4, none⟩ = some (.int .i64 x.q1) ∧ v1.cell? ⟨b, off + i * 11 + 5, none⟩ = some (.int .i64 x.q2) ∧ v1.cell? ⟨b, off + i * 11 + 6, none⟩ = some (.int .i64 x.l0) ∧ v1.cell? ⟨b, off + i * 11 + 7, none⟩ = some (.int .i64 x.l1) ∧ v1.cell? ⟨b, off + i * 11 + 8, none⟩ = some (.int .i64 x.l2) ∧ v1.cell? ⟨b, off + i * 11 + 9, none⟩ = some (.string x.image) ∧ v1.cell? ⟨b, off + i * 11 + 10, none⟩ = some (.int .i64 x.size) from ⟨q0, q1, q2, q3, q4, q5, q6, q7, q8, q9, q10, x0, x1, x2, x3, x4, x5, x6, x7, x8, x9, x10⟩)
          clear hK K q0 q1 q2 q3 q4 q5 q6 q7 q8 q9 q10 x0 x1 x2 x3 x4 x5 x6 x7 x8 x9 x10
          simp only [Act.put, List.setIfInBounds_toArray, List.set_cons_zero, List.set_cons_succ]
          refine held_take 6 21 (.bool false) rfl rfl (by kernel_rfl) (by kernel_rfl) (by kernel_rfl) (fun _ _ _ h => h) (by rfl) (by intro w' hSw; (try dsimp only at hSw); go_simp; (try (with_reducible rfl))) (by assumption) ?_
          simp only [Act.put, List.setIfInBounds_toArray, List.set_cons_zero, List.set_cons_succ]
          refine held_take 7 22 (.bool false) rfl rfl (by kernel_rfl) (by kernel_rfl) (by kernel_rfl) (fun _ _ _ h => h) (by rfl) (by intro w' hSw; (try dsimp only at hSw); go_simp; (try (with_reducible rfl))) (by assumption) ?_
          simp only [Act.put, List.setIfInBounds_toArray, List.set_cons_zero, List.set_cons_succ]
          refine held_take 8 23 (.slice B asked.length d) rfl rfl (by kernel_rfl) (by kernel_rfl) (by kernel_rfl) (fun _ _ _ h => h) (by rfl) (by intro w' hSw; (try dsimp only at hSw); go_simp; (try (with_reducible rfl))) (by assumption) ?_
          simp only [Act.put, List.setIfInBounds_toArray, List.set_cons_zero, List.set_cons_succ]
          refine held_take 9 24 (.slice (some ⟨b, off, none⟩) l.length c) rfl rfl (by kernel_rfl) (by kernel_rfl) (by kernel_rfl) (fun _ _ _ h => h) (by rfl) (by intro w' hSw; (try dsimp only at hSw); go_simp; (try (with_reducible rfl))) (by assumption) ?_
          simp only [Act.put, List.setIfInBounds_toArray, List.set_cons_zero, List.set_cons_succ]
          refine held_take 10 25 (.int .i64 i) rfl rfl (by kernel_rfl) (by kernel_rfl) (by kernel_rfl) (fun _ _ _ h => h) (by rfl) (by intro w' hSw; (try dsimp only at hSw); go_simp; (try (with_reducible rfl))) (by assumption) ?_
          simp only [Act.put, List.setIfInBounds_toArray, List.set_cons_zero, List.set_cons_succ]
          refine held_take 11 26 (.pointer (some ⟨b, off + i * 11, none⟩)) rfl rfl (by kernel_rfl) (by kernel_rfl) (by kernel_rfl) (fun _ _ _ h => h) (by rfl) (by intro w' hSw; (try dsimp only at hSw); go_simp; (try (with_reducible rfl))) (by assumption) ?_
          simp only [Act.put, List.setIfInBounds_toArray, List.set_cons_zero, List.set_cons_succ]
          refine held_take 12 27 (.pointer (some ⟨b, off + i * 11, none⟩)) rfl rfl (by kernel_rfl) (by kernel_rfl) (by kernel_rfl) (fun _ _ _ h => h) (by rfl) (by intro w' hSw; (try dsimp only at hSw); go_simp; (try (with_reducible rfl))) (by assumption) ?_
          simp only [Act.put, List.setIfInBounds_toArray, List.set_cons_zero, List.set_cons_succ]
          refine held_take 13 28 (.string x.id) rfl rfl (by kernel_rfl) (by kernel_rfl) (by kernel_rfl) (fun _ _ _ h => h) (by rfl) (by intro w' hSw; (try dsimp only at hSw); go_simp; (try (with_reducible rfl))) (by assumption) ?_
          simp only [Act.put, List.setIfInBounds_toArray, List.set_cons_zero, List.set_cons_succ]
          refine held_call 14 29 rfl rfl (by kernel_rfl) (by rfl) (fun K hK => ?_)
          go_simp
          go_at_call 50; with_reducible refine (hasV HH.out B d _ HRA.out (by omega)).mono ?_; rintro e v2 ⟨rfl, rfl⟩
          obtain ⟨q0, q1, q2, q3, q4, q5, q6, q7, q8, q9, q10⟩ := HQ.out.pb.pd
          obtain ⟨x0, x1, x2, x3, x4, x5, x6, x7, x8, x9, x10⟩ := HRi.out.pdAt (Below.refl _ _) HXI.out
          refine hK _ _ (⟨q0, q1, q2, q3, q4, q5, q6, q7, q8, q9, q10, x0, x1, x2, x3, x4, x5, x6, x7, x8, x9, x10⟩) ?_
          have hHeld := (show v1.cell? ⟨w.heap.size, 0, none⟩ = some (.string p.id) ∧ v1.cell? ⟨w.heap.size, 1, none⟩ = some (.int .i64 p.prio) ∧ v1.cell? ⟨w.heap.size, 2, none⟩ = some (.bool p.crit) ∧ v1.cell? ⟨w.heap.size, 3, none⟩ = some (.int .i64 p.q0) ∧ v1.cell? ⟨w.heap.size, 4, none⟩ = some (.int .i64 p.q1) ∧ v1.cell? ⟨w.heap.size, 5, none⟩ = some (.int .i64 p.q2) ∧ v1.cell? ⟨w.heap.size, 6, none⟩ = some (.int .i64 p.l0) ∧ v1.cell? ⟨w.heap.size, 7, none⟩ = some (.int .i64 p.l1) ∧ v1.cell? ⟨w.heap.size, 8, none⟩ = some (.int .i64 p.l2) ∧ v1.cell? ⟨w.heap.size, 9, none⟩ = some (.string p.image) ∧ v1.cell? ⟨w.heap.size, 10, none⟩ = some (.int .i64 p.size) ∧ v1.cell? ⟨b, off + i * 11, none⟩ = some (.string x.id) ∧ v1.cell? ⟨b, off + i * 11 + 1, none⟩ = some (.int .i64 x.prio) ∧ v1.cell? ⟨b, off + i * 11 + 2, none⟩ = some (.bool x.crit) ∧ v1.cell? ⟨b, off + i * 11 + 3, none⟩ = some (.int .i64 x.q0) ∧ v1.cell? ⟨b, off + i * 11 + 4, none⟩ = some (.int .i64 x.q1) ∧ v1.cell? ⟨b, off + i * 11 + 5, none⟩ = some (.int .i64 x.q2) ∧ v1.cell? ⟨b, off + i * 11 + 6, none⟩ = some (.int .i64 x.l0) ∧ v1.cell? ⟨b, off + i * 11 + 7, none⟩ = some (.int .i64 x.l1) ∧ v1.cell? ⟨b, off + i * 11 + 8, none⟩ = some (.int .i64 x.l2) ∧ v1.cell? ⟨b, off + i * 11 + 9, none⟩ = some (.string x.image) ∧ v1.cell? ⟨b, off + i * 11 + 10, none⟩ = some (.int .i64 x.size) from ⟨q0, q1, q2, q3, q4, q5, q6, q7, q8, q9, q10, x0, x1, x2, x3, x4, x5, x6, x7, x8, x9, x10⟩)
          clear hK K q0 q1 q2 q3 q4 q5 q6 q7 q8 q9 q10 x0 x1 x2 x3 x4 x5 x6 x7 x8 x9 x10
          simp only [Act.put, List.setIfInBounds_toArray, List.set_cons_zero, List.set_cons_succ]
          refine held_take 15 30 (.bool true) rfl rfl (by kernel_rfl) (by kernel_rfl) (by kernel_rfl) (fun _ _ _ h => h) (by rfl) (by intro w' hSw; (try dsimp only at hSw); go_simp; (try (with_reducible rfl))) (by assumption) ?_
          simp only [Act.put, List.setIfInBounds_toArray, List.set_cons_zero, List.set_cons_succ]
          refine wpAnyH_done (by kernel_rfl) ?_ _
          clear hHeld
          go_wp2_with fail
          go_roundw
          case rel => exact ⟨i + 1, z, by omega, rfl, by go_num, HN.out, HP.out⟩
          case measure => simp [intOf]; omega
        · have HH := Lib.hid hhx
          have HQX : Hid ((mayV p l[i] && !hasD asked l[i].id) = true) := by show _ = _; rw [HXE.out, HM.out, hhx]; rfl
          clear hhx
          have hz : z = -1 ∨ ∃ j, j < l.length ∧ z = (j : Int) := HBA.out.cases_
          rcases hz with hz | hz
          · obtain rfl : z = -1 := hz
            have HN := Lib.hid (HBA.out.first hlt HQX.out)
            have dz : decide ((-1 : Int) < 0) = true := rfl
            go_wp2_with fail
            have HQd := Lib.hid HQ.out.drew
            have HRd := Lib.hid HRi.out.drew
            have HRAd := Lib.hid HRA.out.drew
            obtain ⟨q0, q1, q2, q3, q4, q5, q6, q7, q8, q9, q10⟩ := HQd.out.pb.pd
            obtain ⟨x0, x1, x2, x3, x4, x5, x6, x7, x8, x9, x10⟩ := HRd.out.pdAt (Below.refl _ _) HXI.out
            refine wp_region_held_drew (S := (fun w' => w'.cell? ⟨w.heap.size, 0, none⟩ = some (.string p.id) ∧ w'.cell? ⟨w.heap.size, 1, none⟩ = some (.int .i64 p.prio) ∧ w'.cell? ⟨w.heap.size, 2, none⟩ = some (.bool p.crit) ∧ w'.cell? ⟨w.heap.size, 3, none⟩ = some (.int .i64 p.q0) ∧ w'.cell? ⟨w.heap.size, 4, none⟩ = some (.int .i64 p.q1) ∧ w'.cell? ⟨w.heap.size, 5, none⟩ = some (.int .i64 p.q2) ∧ w'.cell? ⟨w.heap.size, 6, none⟩ = some (.int .i64 p.l0) ∧ w'.cell? ⟨w.heap.size, 7, none⟩ = some (.int .i64 p.l1) ∧ w'.cell? ⟨w.heap.size, 8, none⟩ = some (.int .i64 p.l2) ∧ w'.cell? ⟨w.heap.size, 9, none⟩ = some (.string p.image) ∧ w'.cell? ⟨w.heap.size, 10, none⟩ = some (.int .i64 p.size) ∧ w'.cell? ⟨b, off + i * 11, none⟩ = some (.string x.id) ∧ w'.cell? ⟨b, off + i * 11 + 1, none⟩ = some (.int .i64 x.prio) ∧ w'.cell? ⟨b, off + i * 11 + 2, none⟩ = some (.bool x.crit) ∧ w'.cell? ⟨b, off + i * 11 + 3, none⟩ = some (.int .i64 x.q0) ∧ w'.cell? ⟨b, off + i * 11 + 4, none⟩ = some (.int .i64 x.q1) ∧ w'.cell? ⟨b, off + i * 11 + 5, none⟩ = some (.int .i64 x.q2) ∧ w'.cell? ⟨b, off + i * 11 + 6, none⟩ = some (.int .i64 x.l0) ∧ w'.cell? ⟨b, off + i * 11 + 7, none⟩ = some (.int .i64 x.l1) ∧ w'.cell? ⟨b, off + i * 11 + 8, none⟩ = some (.int .i64 x.l2) ∧ w'.cell? ⟨b, off + i * 11 + 9, none⟩ = some (.string x.image) ∧ w'.cell? ⟨b, off + i * 11 + 10, none⟩ = some (.int .i64 x.size))) (by kernel_rfl) (⟨q0, q1, q2, q3, q4, q5, q6, q7, q8, q9, q10, x0, x1, x2, x3, x4, x5, x6, x7, x8, x9, x10⟩) (fun hHeld => ?_)
            clear q0 q1 q2 q3 q4 q5 q6 q7 q8 q9 q10 x0 x1 x2 x3 x4 x5 x6 x7 x8 x9 x10
            refine held_take 0 15 (.agg #[.string p.id, .int .i64 p.prio, .bool p.crit, .int .i64 p.q0, .int .i64 p.q1, .int .i64 p.q2, .int .i64 p.l0, .int .i64 p.l1, .int .i64 p.l2, .string p.image, .int .i64 p.size]) rfl rfl (by kernel_rfl) (by kernel_rfl) (by kernel_rfl) (fun _ _ _ h => h) (by rfl) (by intro w' hSw; (try dsimp only at hSw); go_simp; (try (with_reducible rfl))) (by assumption) ?_
            simp only [Act.put, List.setIfInBounds_toArray, List.set_cons_zero, List.set_cons_succ]
            refine held_take 1 16 (.slice (some ⟨b, off, none⟩) l.length c) rfl rfl (by kernel_rfl) (by kernel_rfl) (by kernel_rfl) (fun _ _ _ h => h) (by rfl) (by intro w' hSw; (try dsimp only at hSw); go_simp; (try (with_reducible rfl))) (by assumption) ?_
            simp only [Act.put, List.setIfInBounds_toArray, List.set_cons_zero, List.set_cons_succ]
            refine held_take 2 17 (.int .i64 i) rfl rfl (by kernel_rfl) (by kernel_rfl) (by kernel_rfl) (fun _ _ _ h => h) (by rfl) (by intro w' hSw; (try dsimp only at hSw); go_simp; (try (with_reducible rfl))) (by assumption) ?_
            simp only [Act.put, List.setIfInBounds_toArray, List.set_cons_zero, List.set_cons_succ]
            refine held_take 3 18 (.pointer (some ⟨b, off + i * 11, none⟩)) rfl rfl (by kernel_rfl) (by kernel_rfl) (by kernel_rfl) (fun _ _ _ h => h) (by rfl) (by intro w' hSw; (try dsimp only at hSw); go_simp; (try (with_reducible rfl))) (by assumption) ?_
            simp only [Act.put, List.setIfInBounds_toArray, List.set_cons_zero, List.set_cons_succ]
            refine held_take 4 19 (.agg #[.string x.id, .int .i64 x.prio, .bool x.crit, .int .i64 x.q0, .int .i64 x.q1, .int .i64 x.q2, .int .i64 x.l0, .int .i64 x.l1, .int .i64 x.l2, .string x.image, .int .i64 x.size]) rfl rfl (by kernel_rfl) (by kernel_rfl) (by kernel_rfl) (fun _ _ _ h => h) (by rfl) (by intro w' hSw; (try dsimp only at hSw); go_simp; (try (with_reducible rfl))) (by assumption) ?_
            simp only [Act.put, List.setIfInBounds_toArray, List.set_cons_zero, List.set_cons_succ]
            refine held_call 5 20 rfl rfl (by kernel_rfl) (by rfl) (fun K hK => ?_)
            go_simp
            go_at_call 49; with_reducible refine (refVmayV HM.out _).mono ?_; rintro e v1 ⟨rfl, hb⟩
            have HP := Lib.hid (HP.out.drew.trans (hb.mono HP.out.drew.size))
            have HQ := Lib.hid (HQd.out.below hb)
            have HRi := Lib.hid (HRd.out.below hb)
            have HRA := Lib.hid (HRAd.out.below hb)
            clear hb
            obtain ⟨q0, q1, q2, q3, q4, q5, q6, q7, q8, q9, q10⟩ := HQ.out.pb.pd
            obtain ⟨x0, x1, x2, x3, x4, x5, x6, x7, x8, x9, x10⟩ := HRi.out.pdAt (Below.refl _ _) HXI.out
            refine hK _ _ (⟨q0, q1, q2, q3, q4, q5, q6, q7, q8, q9, q10, x0, x1, x2, x3, x4, x5, x6, x7, x8, x9, x10⟩) ?_
            have hHeld := (show v1.cell? ⟨w.heap.size, 0, none⟩ = some (.string p.id) ∧ v1.cell? ⟨w.heap.size, 1, none⟩ = some (.int .i64 p.prio) ∧ v1.cell? ⟨w.heap.size, 2, none⟩ = some (.bool p.crit) ∧ v1.cell? ⟨w.heap.size, 3, none⟩ = some (.int .i64 p.q0) ∧ v1.cell? ⟨w.heap.size, 4, none⟩ = some (.int .i64 p.q1) ∧ v1.cell? ⟨w.heap.size, 5, none⟩ = some (.int .i64 p.q2) ∧ v1.cell? ⟨w.heap.size, 6, none⟩ = some (.int .i64 p.l0) ∧ v1.cell? ⟨w.heap.size, 7, none⟩ = some (.int .i64 p.l1) ∧ v1.cell? ⟨w.heap.size, 8, none⟩ = some (.int .i64 p.l2) ∧ v1.cell? ⟨w.heap.size, 9, none⟩ = some (.string p.image) ∧ v1.cell? ⟨w.heap.size, 10, none⟩ = some (.int .i64 p.size) ∧ v1.cell? ⟨b, off + i * 11, none⟩ = some (.string x.id) ∧ v1.cell? ⟨b, off + i * 11 + 1, none⟩ = some (.int .i64 x.prio) ∧ v1.cell? ⟨b, off + i * 11 + 2, none⟩ = some (.bool x.crit) ∧ v1.cell? ⟨b, off + i * 11 + 3, none⟩ = some (.int .i64 x.q0) ∧ v1.cell? ⟨b, off + i * 11 + 4, none⟩ = some (.int .i64 x.q1) ∧ v1.cell? ⟨b, off + i * 11 + 5, none⟩ = some (.int .i64 x.q2) ∧ v1.cell? ⟨b, off + i * 11 + 6, none⟩ = some (.int .i64 x.l0) ∧ v1.cell? ⟨b, off + i * 11 + 7, none⟩ = some (.int .i64 x.l1) ∧ v1.cell? ⟨b, off + i * 11 + 8, none⟩ = some (.int .i64 x.l2) ∧ v1.cell? ⟨b, off + i * 11 + 9, none⟩ = some (.string x.image) ∧ v1.cell? ⟨b, off + i * 11 + 10, none⟩ = some (.int .i64 x.size) from ⟨q0, q1, q2, q3, q4, q5, q6, q7, q8, q9, q10, x0, x1, x2, x3, x4, x5, x6, x7, x8, x9, x10⟩)
            clear hK K q0 q1 q2 q3 q4 q5 q6 q7 q8 q9 q10 x0 x1 x2 x3 x4 x5 x6 x7 x8 x9 x10
            simp only [Act.put, List.setIfInBounds_toArray, List.set_cons_zero, List.set_cons_succ]
            refine held_take 6 21 (.bool false) rfl rfl (by kernel_rfl) (by kernel_rfl) (by kernel_rfl) (fun _ _ _ h => h) (by rfl) (by intro w' hSw; (try dsimp only at hSw); go_simp; (try (with_reducible rfl))) (by assumption) ?_
            simp only [Act.put, List.setIfInBounds_toArray, List.set_cons_zero, List.set_cons_succ]
            refine held_take 7 22 (.bool false) rfl rfl (by kernel_rfl) (by kernel_rfl) (by kernel_rfl) (fun _ _ _ h => h) (by rfl) (by intro w' hSw; (try dsimp only at hSw); go_simp; (try (with_reducible rfl))) (by assumption) ?_
            simp only [Act.put, List.setIfInBounds_toArray, List.set_cons_zero, List.set_cons_succ]
            refine held_take 8 23 (.slice B asked.length d) rfl rfl (by kernel_rfl) (by kernel_rfl) (by kernel_rfl) (fun _ _ _ h => h) (by rfl) (by intro w' hSw; (try dsimp only at hSw); go_simp; (try (with_reducible rfl))) (by assumption) ?_
            simp only [Act.put, List.setIfInBounds_toArray, List.set_cons_zero, List.set_cons_succ]
            refine held_take 9 24 (.slice (some ⟨b, off, none⟩) l.length c) rfl rfl (by kernel_rfl) (by kernel_rfl) (by kernel_rfl) (fun _ _ _ h => h) (by rfl) (by intro w' hSw; (try dsimp only at hSw); go_simp; (try (with_reducible rfl))) (by assumption) ?_
            simp only [Act.put, List.setIfInBounds_toArray, List.set_cons_zero, List.set_cons_succ]
            refine held_take 10 25 (.int .i64 i) rfl rfl (by kernel_rfl) (by kernel_rfl) (by kernel_rfl) (fun _ _ _ h => h) (by rfl) (by intro w' hSw; (try dsimp only at hSw); go_simp; (try (with_reducible rfl))) (by assumption) ?_
            simp only [Act.put, List.setIfInBounds_toArray, List.set_cons_zero, List.set_cons_succ]
            refine held_take 11 26 (.pointer (some ⟨b, off + i * 11, none⟩)) rfl rfl (by kernel_rfl) (by kernel_rfl) (by kernel_rfl) (fun _ _ _ h => h) (by rfl) (by intro w' hSw; (try dsimp only at hSw); go_simp; (try (with_reducible rfl))) (by assumption) ?_
            simp only [Act.put, List.setIfInBounds_toArray, List.set_cons_zero, List.set_cons_succ]
            refine held_take 12 27 (.pointer (some ⟨b, off + i * 11, none⟩)) rfl rfl (by kernel_rfl) (by kernel_rfl) (by kernel_rfl) (fun _ _ _ h => h) (by rfl) (by intro w' hSw; (try dsimp only at hSw); go_simp; (try (with_reducible rfl))) (by assumption) ?_
            simp only [Act.put, List.setIfInBounds_toArray, List.set_cons_zero, List.set_cons_succ]
            refine held_take 13 28 (.string x.id) rfl rfl (by kernel_rfl) (by kernel_rfl) (by kernel_rfl) (fun _ _ _ h => h) (by rfl) (by intro w' hSw; (try dsimp only at hSw); go_simp; (try (with_reducible rfl))) (by assumption) ?_
            simp only [Act.put, List.setIfInBounds_toArray, List.set_cons_zero, List.set_cons_succ]
            refine held_call 14 29 rfl rfl (by kernel_rfl) (by rfl) (fun K hK => ?_)
            go_simp
            go_at_call 50; with_reducible refine (hasV HH.out B d _ HRA.out (by omega)).mono ?_; rintro e v2 ⟨rfl, rfl⟩
            obtain ⟨q0, q1, q2, q3, q4, q5, q6, q7, q8, q9, q10⟩ := HQ.out.pb.pd
            obtain ⟨x0, x1, x2, x3, x4, x5, x6, x7, x8, x9, x10⟩ := HRi.out.pdAt (Below.refl _ _) HXI.out
            refine hK _ _ (⟨q0, q1, q2, q3, q4, q5, q6, q7, q8, q9, q10, x0, x1, x2, x3, x4, x5, x6, x7, x8, x9, x10⟩) ?_
            have hHeld := (show v1.cell? ⟨w.heap.size, 0, none⟩ = some (.string p.id) ∧ v1.cell? ⟨w.heap.size, 1, none⟩ = some (.int .i64 p.prio) ∧ v1.cell? ⟨w.heap.size, 2, none⟩ = some (.bool p.crit) ∧ v1.cell? ⟨w.heap.size, 3, none⟩ = some (.int .i64 p.q0) ∧ v1.cell? ⟨w.heap.size, 4, none⟩ = some (.int .i64 p.q1) ∧ v1.cell? ⟨w.heap.size, 5, none⟩ = some (.int .i64 p.q2) ∧ v1.cell? ⟨w.heap.size, 6, none⟩ = some (.int .i64 p.l0) ∧ v1.cell? ⟨w.heap.size, 7, none⟩ = some (.int .i64 p.l1) ∧ v1.cell? ⟨w.heap.size, 8, none⟩ = some (.int .i64 p.l2) ∧ v1.cell? ⟨w.heap.size, 9, none⟩ = some (.string p.image) ∧ v1.cell? ⟨w.heap.size, 10, none⟩ = some (.int .i64 p.size) ∧ v1.cell? ⟨b, off + i * 11, none⟩ = some (.string x.id) ∧ v1.cell? ⟨b, off + i * 11 + 1, none⟩ = some (.int .i64 x.prio) ∧ v1.cell? ⟨b, off + i * 11 + 2, none⟩ = some (.bool x.crit) ∧ v1.cell? ⟨b, off + i * 11 + 3, none⟩ = some (.int .i64 x.q0) ∧ v1.cell? ⟨b, off + i * 11 + 4, none⟩ = some (.int .i64 x.q1) ∧ v1.cell? ⟨b, off + i * 11 + 5, none⟩ = some (.int .i64 x.q2) ∧ v1.cell? ⟨b, off + i * 11 + 6, none⟩ = some (.int .i64 x.l0) ∧ v1.cell? ⟨b, off + i * 11 + 7, none⟩ = some (.int .i64 x.l1) ∧ v1.cell? ⟨b, off + i * 11 + 8, none⟩ = some (.int .i64 x.l2) ∧ v1.cell? ⟨b, off + i * 11 + 9, none⟩ = some (.string x.image) ∧ v1.cell? ⟨b, off + i * 11 + 10, none⟩ = some (.int .i64 x.size) from ⟨q0, q1, q2, q3, q4, q5, q6, q7, q8, q9, q10, x0, x1, x2, x3, x4, x5, x6, x7, x8, x9, x10⟩)
            clear hK K q0 q1 q2 q3 q4 q5 q6 q7 q8 q9 q10 x0 x1 x2 x3 x4 x5 x6 x7 x8 x9 x10
            simp only [Act.put, List.setIfInBounds_toArray, List.set_cons_zero, List.set_cons_succ]
            refine held_take 15 30 (.bool false) rfl rfl (by kernel_rfl) (by kernel_rfl) (by kernel_rfl) (fun _ _ _ h => h) (by rfl) (by intro w' hSw; (try dsimp only at hSw); go_simp; (try (with_reducible rfl))) (by assumption) ?_
            simp only [Act.put, List.setIfInBounds_toArray, List.set_cons_zero, List.set_cons_succ]
            refine wpAnyH_done (by kernel_rfl) ?_ _
            clear hHeld
            go_wp2_with fail
            have HQ := Lib.hid HQ.out.drew
            have HP := Lib.hid HP.out.drew
            refine wp_region_held_drew (S := fun _ => True) (by kernel_rfl) trivial (fun hHeld => ?_)
            refine held_take 0 31 (.int .i64 (-1)) rfl rfl (by kernel_rfl) (by kernel_rfl) (by kernel_rfl) (fun _ _ _ h => h) (by rfl) (by intro w' hSw; (try dsimp only at hSw); go_simp; (try (with_reducible rfl))) (by assumption) ?_
            simp only [Act.put, List.setIfInBounds_toArray, List.set_cons_zero, List.set_cons_succ]
            refine held_take 1 32 (.bool true) rfl rfl (by kernel_rfl) (by kernel_rfl) (by kernel_rfl) (fun _ _ _ h => h) (by rfl) (by intro w' hSw; (try dsimp only at hSw); go_simp; (try (with_reducible rfl))) (by assumption) ?_
            simp only [Act.put, List.setIfInBounds_toArray, List.set_cons_zero, List.set_cons_succ]
            refine held_take 2 33 (.bool true) rfl rfl (by kernel_rfl) (by kernel_rfl) (by kernel_rfl) (fun _ _ _ h => h) (by rfl) (by intro w' hSw; (try dsimp only at hSw); go_simp; (try (with_reducible rfl))) (by assumption) ?_
            simp only [Act.put, List.setIfInBounds_toArray, List.set_cons_zero, List.set_cons_succ]
            refine held_skip 3 34 rfl rfl (by kernel_rfl) (by kernel_rfl) (by kernel_rfl) (fun _ _ _ h => h) (by rfl) (by assumption) ?_
            simp only [Act.put, List.setIfInBounds_toArray, List.set_cons_zero, List.set_cons_succ]
            refine held_skip 4 35 rfl rfl (by kernel_rfl) (by kernel_rfl) (by kernel_rfl) (fun _ _ _ h => h) (by rfl) (by assumption) ?_
            simp only [Act.put, List.setIfInBounds_toArray, List.set_cons_zero, List.set_cons_succ]
            refine held_skip 5 36 rfl rfl (by kernel_rfl) (by kernel_rfl) (by kernel_rfl) (fun _ _ _ h => h) (by rfl) (by assumption) ?_
            simp only [Act.put, List.setIfInBounds_toArray, List.set_cons_zero, List.set_cons_succ]
            refine held_skip 6 37 rfl rfl (by kernel_rfl) (by kernel_rfl) (by kernel_rfl) (fun _ _ _ h => h) (by rfl) (by assumption) ?_
            simp only [Act.put, List.setIfInBounds_toArray, List.set_cons_zero, List.set_cons_succ]
            refine held_skip 7 38 rfl rfl (by kernel_rfl) (by kernel_rfl) (by kernel_rfl) (fun _ _ _ h => h) (by rfl) (by assumption) ?_
            simp only [Act.put, List.setIfInBounds_toArray, List.set_cons_zero, List.set_cons_succ]
            refine held_skip 8 39 rfl rfl (by kernel_rfl) (by kernel_rfl) (by kernel_rfl) (fun _ _ _ h => h) (by rfl) (by assumption) ?_
            simp only [Act.put, List.setIfInBounds_toArray, List.set_cons_zero, List.set_cons_succ]
            refine held_skip 9 40 rfl rfl (by kernel_rfl) (by kernel_rfl) (by kernel_rfl) (fun _ _ _ h => h) (by rfl) (by assumption) ?_
            simp only [Act.put, List.setIfInBounds_toArray, List.set_cons_zero, List.set_cons_succ]
            refine held_skip 10 41 rfl rfl (by kernel_rfl) (by kernel_rfl) (by kernel_rfl) (fun _ _ _ h => h) (by rfl) (by assumption) ?_
            simp only [Act.put, List.setIfInBounds_toArray, List.set_cons_zero, List.set_cons_succ]
            refine held_skip 11 42 rfl rfl (by kernel_rfl) (by kernel_rfl) (by kernel_rfl) (fun _ _ _ h => h) (by rfl) (by assumption) ?_
            simp only [Act.put, List.setIfInBounds_toArray, List.set_cons_zero, List.set_cons_succ]
            refine held_skip 12 43 rfl rfl (by kernel_rfl) (by kernel_rfl) (by kernel_rfl) (fun _ _ _ h => h) (by rfl) (by assumption) ?_
            simp only [Act.put, List.setIfInBounds_toArray, List.set_cons_zero, List.set_cons_succ]
            refine held_skip 13 44 rfl rfl (by kernel_rfl) (by kernel_rfl) (by kernel_rfl) (fun _ _ _ h => h) (by rfl) (by assumption) ?_
            simp only [Act.put, List.setIfInBounds_toArray, List.set_cons_zero, List.set_cons_succ]
            refine held_take 14 45 (.bool true) rfl rfl (by kernel_rfl) (by kernel_rfl) (by kernel_rfl) (fun _ _ _ h => h) (by rfl) (by intro w' hSw; (try dsimp only at hSw); go_simp; (try (with_reducible rfl))) (by assumption) ?_
            simp only [Act.put, List.setIfInBounds_toArray, List.set_cons_zero, List.set_cons_succ]
            refine held_take 15 46 (.bool true) rfl rfl (by kernel_rfl) (by kernel_rfl) (by kernel_rfl) (fun _ _ _ h => h) (by rfl) (by intro w' hSw; (try dsimp only at hSw); go_simp; (try (with_reducible rfl))) (by assumption) ?_
            simp only [Act.put, List.setIfInBounds_toArray, List.set_cons_zero, List.set_cons_succ]
            refine held_skip 16 47 rfl rfl (by kernel_rfl) (by kernel_rfl) (by kernel_rfl) (fun _ _ _ h => h) (by rfl) (by assumption) ?_
            simp only [Act.put, List.setIfInBounds_toArray, List.set_cons_zero, List.set_cons_succ]
            refine held_skip 17 48 rfl rfl (by kernel_rfl) (by kernel_rfl) (by kernel_rfl) (fun _ _ _ h => h) (by rfl) (by assumption) ?_
            simp only [Act.put, List.setIfInBounds_toArray, List.set_cons_zero, List.set_cons_succ]
            refine held_skip 18 49 rfl rfl (by kernel_rfl) (by kernel_rfl) (by kernel_rfl) (fun _ _ _ h => h) (by rfl) (by assumption) ?_
            simp only [Act.put, List.setIfInBounds_toArray, List.set_cons_zero, List.set_cons_succ]
            refine held_skip 19 50 rfl rfl (by kernel_rfl) (by kernel_rfl) (by kernel_rfl) (fun _ _ _ h => h) (by rfl) (by assumption) ?_
            simp only [Act.put, List.setIfInBounds_toArray, List.set_cons_zero, List.set_cons_succ]
            refine held_skip 20 51 rfl rfl (by kernel_rfl) (by kernel_rfl) (by kernel_rfl) (fun _ _ _ h => h) (by rfl) (by assumption) ?_
            simp only [Act.put, List.setIfInBounds_toArray, List.set_cons_zero, List.set_cons_succ]
            refine held_skip 21 52 rfl rfl (by kernel_rfl) (by kernel_rfl) (by kernel_rfl) (fun _ _ _ h => h) (by rfl) (by assumption) ?_
            simp only [Act.put, List.setIfInBounds_toArray, List.set_cons_zero, List.set_cons_succ]
            refine held_skip 22 53 rfl rfl (by kernel_rfl) (by kernel_rfl) (by kernel_rfl) (fun _ _ _ h => h) (by rfl) (by assumption) ?_
            simp only [Act.put, List.setIfInBounds_toArray, List.set_cons_zero, List.set_cons_succ]
            refine held_skip 23 54 rfl rfl (by kernel_rfl) (by kernel_rfl) (by kernel_rfl) (fun _ _ _ h => h) (by rfl) (by assumption) ?_
            simp only [Act.put, List.setIfInBounds_toArray, List.set_cons_zero, List.set_cons_succ]
            refine held_skip 24 55 rfl rfl (by kernel_rfl) (by kernel_rfl) (by kernel_rfl) (fun _ _ _ h => h) (by rfl) (by assumption) ?_
            simp only [Act.put, List.setIfInBounds_toArray, List.set_cons_zero, List.set_cons_succ]
            refine held_skip 25 56 rfl rfl (by kernel_rfl) (by kernel_rfl) (by kernel_rfl) (fun _ _ _ h => h) (by rfl) (by assumption) ?_
            simp only [Act.put, List.setIfInBounds_toArray, List.set_cons_zero, List.set_cons_succ]
            refine held_skip 26 57 rfl rfl (by kernel_rfl) (by kernel_rfl) (by kernel_rfl) (fun _ _ _ h => h) (by rfl) (by assumption) ?_
            simp only [Act.put, List.setIfInBounds_toArray, List.set_cons_zero, List.set_cons_succ]
            refine held_skip 27 58 rfl rfl (by kernel_rfl) (by kernel_rfl) (by kernel_rfl) (fun _ _ _ h => h) (by rfl) (by assumption) ?_
            simp only [Act.put, List.setIfInBounds_toArray, List.set_cons_zero, List.set_cons_succ]
            refine held_skip 28 59 rfl rfl (by kernel_rfl) (by kernel_rfl) (by kernel_rfl) (fun _ _ _ h => h) (by rfl) (by assumption) ?_
            simp only [Act.put, List.setIfInBounds_toArray, List.set_cons_zero, List.set_cons_succ]
            refine held_skip 29 60 rfl rfl (by kernel_rfl) (by kernel_rfl) (by kernel_rfl) (fun _ _ _ h => h) (by rfl) (by assumption) ?_
            simp only [Act.put, List.setIfInBounds_toArray, List.set_cons_zero, List.set_cons_succ]
            refine held_skip 30 61 rfl rfl (by kernel_rfl) (by kernel_rfl) (by kernel_rfl) (fun _ _ _ h => h) (by rfl) (by assumption) ?_
            simp only [Act.put, List.setIfInBounds_toArray, List.set_cons_zero, List.set_cons_succ]
            refine held_skip 31 62 rfl rfl (by kernel_rfl) (by kernel_rfl) (by kernel_rfl) (fun _ _ _ h => h) (by rfl) (by assumption) ?_
            simp only [Act.put, List.setIfInBounds_toArray, List.set_cons_zero, List.set_cons_succ]
            refine held_skip 32 63 rfl rfl (by kernel_rfl) (by kernel_rfl) (by kernel_rfl) (fun _ _ _ h => h) (by rfl) (by assumption) ?_
            simp only [Act.put, List.setIfInBounds_toArray, List.set_cons_zero, List.set_cons_succ]
            refine held_skip 33 64 rfl rfl (by kernel_rfl) (by kernel_rfl) (by kernel_rfl) (fun _ _ _ h => h) (by rfl) (by assumption) ?_
            simp only [Act.put, List.setIfInBounds_toArray, List.set_cons_zero, List.set_cons_succ]
            refine held_skip 34 65 rfl rfl (by kernel_rfl) (by kernel_rfl) (by kernel_rfl) (fun _ _ _ h => h) (by rfl) (by assumption) ?_
            simp only [Act.put, List.setIfInBounds_toArray, List.set_cons_zero, List.set_cons_succ]
            refine held_skip 35 66 rfl rfl (by kernel_rfl) (by kernel_rfl) (by kernel_rfl) (fun _ _ _ h => h) (by rfl) (by assumption) ?_
            simp only [Act.put, List.setIfInBounds_toArray, List.set_cons_zero, List.set_cons_succ]
            refine held_skip 36 67 rfl rfl (by kernel_rfl) (by kernel_rfl) (by kernel_rfl) (fun _ _ _ h => h) (by rfl) (by assumption) ?_
            simp only [Act.put, List.setIfInBounds_toArray, List.set_cons_zero, List.set_cons_succ]
            refine held_skip 37 68 rfl rfl (by kernel_rfl) (by kernel_rfl) (by kernel_rfl) (fun _ _ _ h => h) (by rfl) (by assumption) ?_
            simp only [Act.put, List.setIfInBounds_toArray, List.set_cons_zero, List.set_cons_succ]
            refine held_skip 38 69 rfl rfl (by kernel_rfl) (by kernel_rfl) (by kernel_rfl) (fun _ _ _ h => h) (by rfl) (by assumption) ?_
            simp only [Act.put, List.setIfInBounds_toArray, List.set_cons_zero, List.set_cons_succ]
            refine held_skip 39 70 rfl rfl (by kernel_rfl) (by kernel_rfl) (by kernel_rfl) (fun _ _ _ h => h) (by rfl) (by assumption) ?_
            simp only [Act.put, List.setIfInBounds_toArray, List.set_cons_zero, List.set_cons_succ]
            refine held_take 40 71 (.bool true) rfl rfl (by kernel_rfl) (by kernel_rfl) (by kernel_rfl) (fun _ _ _ h => h) (by rfl) (by intro w' hSw; (try dsimp only at hSw); go_simp; (try (with_reducible rfl))) (by assumption) ?_
            simp only [Act.put, List.setIfInBounds_toArray, List.set_cons_zero, List.set_cons_succ]
            refine wpAnyH_done (by kernel_rfl) ?_ _
            clear hHeld
            go_wp2_with fail
            go_roundw
            case rel => exact ⟨i + 1, (i : Int), by omega, rfl, by go_num, HN.out, HP.out⟩
            case measure => simp [intOf]; omega
          · obtain ⟨j, hj, hz⟩ := hz
            obtain rfl : z = (j : Int) := hz
            have dz : decide ((j : Int) < 0) = false := decide_eq_false (by omega)
            have dj2 : (j : Int) < (l.length : Int) := by omega
            have HYJ := Lib.hid (List.getElem?_eq_getElem hj)
            have HBET := Lib.hid (fun h => HBA.out.better hlt hj HQX.out h)
            have HWOR := Lib.hid (fun h => HBA.out.worse hlt hj h)
            rw [HXE.out] at HBET HWOR
            generalize l[j] = y at *
            by_cases h1 : y.prio < x.prio
            · have HG := Lib.hid h1
              have HN := Lib.hid (HBET.out ((vlt_iff _ _).2 (.inl h1)))
              clear h1 HBET HWOR
              go_wp2_with fail
              have HQd := Lib.hid HQ.out.drew
              have HRd := Lib.hid HRi.out.drew
              have HRAd := Lib.hid HRA.out.drew
              obtain ⟨q0, q1, q2, q3, q4, q5, q6, q7, q8, q9, q10⟩ := HQd.out.pb.pd
              obtain ⟨x0, x1, x2, x3, x4, x5, x6, x7, x8, x9, x10⟩ := HRd.out.pdAt (Below.refl _ _) HXI.out
              refine wp_region_held_drew (S := (fun w' => w'.cell? ⟨w.heap.size, 0, none⟩ = some (.string p.id) ∧ w'.cell? ⟨w.heap.size, 1, none⟩ = some (.int .i64 p.prio) ∧ w'.cell? ⟨w.heap.size, 2, none⟩ = some (.bool p.crit) ∧ w'.cell? ⟨w.heap.size, 3, none⟩ = some (.int .i64 p.q0) ∧ w'.cell? ⟨w.heap.size, 4, none⟩ = some (.int .i64 p.q1) ∧ w'.cell? ⟨w.heap.size, 5, none⟩ = some (.int .i64 p.q2) ∧ w'.cell? ⟨w.heap.size, 6, none⟩ = some (.int .i64 p.l0) ∧ w'.cell? ⟨w.heap.size, 7, none⟩ = some (.int .i64 p.l1) ∧ w'.cell? ⟨w.heap.size, 8, none⟩ = some (.int .i64 p.l2) ∧ w'.cell? ⟨w.heap.size, 9, none⟩ = some (.string p.image) ∧ w'.cell? ⟨w.heap.size, 10, none⟩ = some (.int .i64 p.size) ∧ w'.cell? ⟨b, off + i * 11, none⟩ = some (.string x.id) ∧ w'.cell? ⟨b, off + i * 11 + 1, none⟩ = some (.int .i64 x.prio) ∧ w'.cell? ⟨b, off + i * 11 + 2, none⟩ = some (.bool x.crit) ∧ w'.cell? ⟨b, off + i * 11 + 3, none⟩ = some (.int .i64 x.q0) ∧ w'.cell? ⟨b, off + i * 11 + 4, none⟩ = some (.int .i64 x.q1) ∧ w'.cell? ⟨b, off + i * 11 + 5, none⟩ = some (.int .i64 x.q2) ∧ w'.cell? ⟨b, off + i * 11 + 6, none⟩ = some (.int .i64 x.l0) ∧ w'.cell? ⟨b, off + i * 11 + 7, none⟩ = some (.int .i64 x.l1) ∧ w'.cell? ⟨b, off + i * 11 + 8, none⟩ = some (.int .i64 x.l2) ∧ w'.cell? ⟨b, off + i * 11 + 9, none⟩ = some (.string x.image) ∧ w'.cell? ⟨b, off + i * 11 + 10, none⟩ = some (.int .i64 x.size))) (by kernel_rfl) (⟨q0, q1, q2, q3, q4, q5, q6, q7, q8, q9, q10, x0, x1, x2, x3, x4, x5, x6, x7, x8, x9, x10⟩) (fun hHeld => ?_)
              clear q0 q1 q2 q3 q4 q5 q6 q7 q8 q9 q10 x0 x1 x2 x3 x4 x5 x6 x7 x8 x9 x10
              refine held_take 0 15 (.agg #[.string p.id, .int .i64 p.prio, .bool p.crit, .int .i64 p.q0, .int .i64 p.q1, .int .i64 p.q2, .int .i64 p.l0, .int .i64 p.l1, .int .i64 p.l2, .string p.image, .int .i64 p.size]) rfl rfl (by kernel_rfl) (by kernel_rfl) (by kernel_rfl) (fun _ _ _ h => h) (by rfl) (by intro w' hSw; (try dsimp only at hSw); go_simp; (try (with_reducible rfl))) (by assumption) ?_
              simp only [Act.put, List.setIfInBounds_toArray, List.set_cons_zero, List.set_cons_succ]
              refine held_take 1 16 (.slice (some ⟨b, off, none⟩) l.length c) rfl rfl (by kernel_rfl) (by kernel_rfl) (by kernel_rfl) (fun _ _ _ h => h) (by rfl) (by intro w' hSw; (try dsimp only at hSw); go_simp; (try (with_reducible rfl))) (by assumption) ?_
              simp only [Act.put, List.setIfInBounds_toArray, List.set_cons_zero, List.set_cons_succ]
              refine held_take 2 17 (.int .i64 i) rfl rfl (by kernel_rfl) (by kernel_rfl) (by kernel_rfl) (fun _ _ _ h => h) (by rfl) (by intro w' hSw; (try dsimp only at hSw); go_simp; (try (with_reducible rfl))) (by assumption) ?_
              simp only [Act.put, List.setIfInBounds_toArray, List.set_cons_zero, List.set_cons_succ]
              refine held_take 3 18 (.pointer (some ⟨b, off + i * 11, none⟩)) rfl rfl (by kernel_rfl) (by kernel_rfl) (by kernel_rfl) (fun _ _ _ h => h) (by rfl) (by intro w' hSw; (try dsimp only at hSw); go_simp; (try (with_reducible rfl))) (by assumption) ?_
              simp only [Act.put, List.setIfInBounds_toArray, List.set_cons_zero, List.set_cons_succ]
              refine held_take 4 19 (.agg #[.string x.id, .int .i64 x.prio, .bool x.crit, .int .i64 x.q0, .int .i64 x.q1, .int .i64 x.q2, .int .i64 x.l0, .int .i64 x.l1, .int .i64 x.l2, .string x.image, .int .i64 x.size]) rfl rfl (by kernel_rfl) (by kernel_rfl) (by kernel_rfl) (fun _ _ _ h => h) (by rfl) (by intro w' hSw; (try dsimp only at hSw); go_simp; (try (with_reducible rfl))) (by assumption) ?_
              simp only [Act.put, List.setIfInBounds_toArray, List.set_cons_zero, List.set_cons_succ]
              refine held_call 5 20 rfl rfl (by kernel_rfl) (by rfl) (fun K hK => ?_)
              go_simp
              go_at_call 49; with_reducible refine (refVmayV HM.out _).mono ?_; rintro e v1 ⟨rfl, hb⟩
              have HP := Lib.hid (HP.out.drew.trans (hb.mono HP.out.drew.size))
              have HQ := Lib.hid (HQd.out.below hb)
              have HRi := Lib.hid (HRd.out.below hb)
              have HRA := Lib.hid (HRAd.out.below hb)
              clear hb
              obtain ⟨q0, q1, q2, q3, q4, q5, q6, q7, q8, q9, q10⟩ := HQ.out.pb.pd
              obtain ⟨x0, x1, x2, x3, x4, x5, x6, x7, x8, x9, x10⟩ := HRi.out.pdAt (Below.refl _ _) HXI.out
              refine hK _ _ (⟨q0, q1, q2, q3, q4, q5, q6, q7, q8, q9, q10, x0, x1, x2, x3, x4, x5, x6, x7, x8, x9, x10⟩) ?_
              have hHeld := (show v1.cell? ⟨w.heap.size, 0, none⟩ = some (.string p.id) ∧ v1.cell? ⟨w.heap.size, 1, none⟩ = some (.int .i64 p.prio) ∧ v1.cell? ⟨w.heap.size, 2, none⟩ = some (.bool p.crit) ∧ v1.cell? ⟨w.heap.size, 3, none⟩ = some (.int .i64 p.q0) ∧ v1.cell? ⟨w.heap.size, 4, none⟩ = some (.int .i64 p.q1) ∧ v1.cell? ⟨w.heap.size, 5, none⟩ = some (.int .i64 p.q2) ∧ v1.cell? ⟨w.heap.size, 6, none⟩ = some (.int .i64 p.l0) ∧ v1.cell? ⟨w.heap.size, 7, none⟩ = some (.int .i64 p.l1) ∧ v1.cell? ⟨w.heap.size, 8, none⟩ = some (.int .i64 p.l2) ∧ v1.cell? ⟨w.heap.size, 9, none⟩ = some (.string p.image) ∧ v1.cell? ⟨w.heap.size, 10, none⟩ = some (.int .i64 p.size) ∧ v1.cell? ⟨b, off + i * 11, none⟩ = some (.string x.id) ∧ v1.cell? ⟨b, off + i * 11 + 1, none⟩ = some (.int .i64 x.prio) ∧ v1.cell? ⟨b, off + i * 11 + 2, none⟩ = some (.bool x.crit) ∧ v1.cell? ⟨b, off + i * 11 + 3, none⟩ = some (.int .i64 x.q0) ∧ v1.cell? ⟨b, off + i * 11 + 4, none⟩ = some (.int .i64 x.q1) ∧ v1.cell? ⟨b, off + i * 11 + 5, none⟩ = some (.int .i64 x.q2) ∧ v1.cell? ⟨b, off + i * 11 + 6, none⟩ = some (.int .i64 x.l0) ∧ v1.cell? ⟨b, off + i * 11 + 7, none⟩ = some (.int .i64 x.l1) ∧ v1.cell? ⟨b, off + i * 11 + 8, none⟩ = some (.int .i64 x.l2) ∧ v1.cell? ⟨b, off + i * 11 + 9, none⟩ = some (.string x.image) ∧ v1.cell? ⟨b, off + i * 11 + 10, none⟩ = some (.int .i64 x.size) from ⟨q0, q1, q2, q3, q4, q5, q6, q7, q8, q9, q10, x0, x1, x2, x3, x4, x5, x6, x7, x8, x9, x10⟩)
              clear hK K q0 q1 q2 q3 q4 q5 q6 q7 q8 q9 q10 x0 x1 x2 x3 x4 x5 x6 x7 x8 x9 x10
              simp only [Act.put, List.setIfInBounds_toArray, List.set_cons_zero, List.set_cons_succ]
              refine held_take 6 21 (.bool false) rfl rfl (by kernel_rfl) (by kernel_rfl) (by kernel_rfl) (fun _ _ _ h => h) (by rfl) (by intro w' hSw; (try dsimp only at hSw); go_simp; (try (with_reducible rfl))) (by assumption) ?_
              simp only [Act.put, List.setIfInBounds_toArray, List.set_cons_zero, List.set_cons_succ]
              refine held_take 7 22 (.bool false) rfl rfl (by kernel_rfl) (by kernel_rfl) (by kernel_rfl) (fun _ _ _ h => h) (by rfl) (by intro w' hSw; (try dsimp only at hSw); go_simp; (try (with_reducible rfl))) (by assumption) ?_
              simp only [Act.put, List.setIfInBounds_toArray, List.set_cons_zero, List.set_cons_succ]
              refine held_take 8 23 (.slice B asked.length d) rfl rfl (by kernel_rfl) (by kernel_rfl) (by kernel_rfl) (fun _ _ _ h => h) (by rfl) (by intro w' hSw; (try dsimp only at hSw); go_simp; (try (with_reducible rfl))) (by assumption) ?_
              simp only [Act.put, List.setIfInBounds_toArray, List.set_cons_zero, List.set_cons_succ]
              refine held_take 9 24 (.slice (some ⟨b, off, none⟩) l.length c) rfl rfl (by kernel_rfl) (by kernel_rfl) (by kernel_rfl) (fun _ _ _ h => h) (by rfl) (by intro w' hSw; (try dsimp only at hSw); go_simp; (try (with_reducible rfl))) (by assumption) ?_
              simp only [Act.put, List.setIfInBounds_toArray, List.set_cons_zero, List.set_cons_succ]
              refine held_take 10 25 (.int .i64 i) rfl rfl (by kernel_rfl) (by kernel_rfl) (by kernel_rfl) (fun _ _ _ h => h) (by rfl) (by intro w' hSw; (try dsimp only at hSw); go_simp; (try (with_reducible rfl))) (by assumption) ?_
              simp only [Act.put, List.setIfInBounds_toArray, List.set_cons_zero, List.set_cons_succ]
              refine held_take 11 26 (.pointer (some ⟨b, off + i * 11, none⟩)) rfl rfl (by kernel_rfl) (by kernel_rfl) (by kernel_rfl) (fun _ _ _ h => h) (by rfl) (by intro w' hSw; (try dsimp only at hSw); go_simp; (try (with_reducible rfl))) (by assumption) ?_
              simp only [Act.put, List.setIfInBounds_toArray, List.set_cons_zero, List.set_cons_succ]
              refine held_take 12 27 (.pointer (some ⟨b, off + i * 11, none⟩)) rfl rfl (by kernel_rfl) (by kernel_rfl) (by kernel_rfl) (fun _ _ _ h => h) (by rfl) (by intro w' hSw; (try dsimp only at hSw); go_simp; (try (with_reducible rfl))) (by assumption) ?_
              simp only [Act.put, List.setIfInBounds_toArray, List.set_cons_zero, List.set_cons_succ]
              refine held_take 13 28 (.string x.id) rfl rfl (by kernel_rfl) (by kernel_rfl) (by kernel_rfl) (fun _ _ _ h => h) (by rfl) (by intro w' hSw; (try dsimp only at hSw); go_simp; (try (with_reducible rfl))) (by assumption) ?_
              simp only [Act.put, List.setIfInBounds_toArray, List.set_cons_zero, List.set_cons_succ]
              refine held_call 14 29 rfl rfl (by kernel_rfl) (by rfl) (fun K hK => ?_)
              go_simp
              go_at_call 50; with_reducible refine (hasV HH.out B d _ HRA.out (by omega)).mono ?_; rintro e v2 ⟨rfl, rfl⟩
              obtain ⟨q0, q1, q2, q3, q4, q5, q6, q7, q8, q9, q10⟩ := HQ.out.pb.pd
              obtain ⟨x0, x1, x2, x3, x4, x5, x6, x7, x8, x9, x10⟩ := HRi.out.pdAt (Below.refl _ _) HXI.out
              refine hK _ _ (⟨q0, q1, q2, q3, q4, q5, q6, q7, q8, q9, q10, x0, x1, x2, x3, x4, x5, x6, x7, x8, x9, x10⟩) ?_
              have hHeld := (show v1.cell? ⟨w.heap.size, 0, none⟩ = some (.string p.id) ∧ v1.cell? ⟨w.heap.size, 1, none⟩ = some (.int .i64 p.prio) ∧ v1.cell? ⟨w.heap.size, 2, none⟩ = some (.bool p.crit) ∧ v1.cell? ⟨w.heap.size, 3, none⟩ = some (.int .i64 p.q0) ∧ v1.cell? ⟨w.heap.size, 4, none⟩ = some (.int .i64 p.q1) ∧ v1.cell? ⟨w.heap.size, 5, none⟩ = some (.int .i64 p.q2) ∧ v1.cell? ⟨w.heap.size, 6, none⟩ = some (.int .i64 p.l0) ∧ v1.cell? ⟨w.heap.size, 7, none⟩ = some (.int .i64 p.l1) ∧ v1.cell? ⟨w.heap.size, 8, none⟩ = some (.int .i64 p.l2) ∧ v1.cell? ⟨w.heap.size, 9, none⟩ = some (.string p.image) ∧ v1.cell? ⟨w.heap.size, 10, none⟩ = some (.int .i64 p.size) ∧ v1.cell? ⟨b, off + i * 11, none⟩ = some (.string x.id) ∧ v1.cell? ⟨b, off + i * 11 + 1, none⟩ = some (.int .i64 x.prio) ∧ v1.cell? ⟨b, off + i * 11 + 2, none⟩ = some (.bool x.crit) ∧ v1.cell? ⟨b, off + i * 11 + 3, none⟩ = some (.int .i64 x.q0) ∧ v1.cell? ⟨b, off + i * 11 + 4, none⟩ = some (.int .i64 x.q1) ∧ v1.cell? ⟨b, off + i * 11 + 5, none⟩ = some (.int .i64 x.q2) ∧ v1.cell? ⟨b, off + i * 11 + 6, none⟩ = some (.int .i64 x.l0) ∧ v1.cell? ⟨b, off + i * 11 + 7, none⟩ = some (.int .i64 x.l1) ∧ v1.cell? ⟨b, off + i * 11 + 8, none⟩ = some (.int .i64 x.l2) ∧ v1.cell? ⟨b, off + i * 11 + 9, none⟩ = some (.string x.image) ∧ v1.cell? ⟨b, off + i * 11 + 10, none⟩ = some (.int .i64 x.size) from ⟨q0, q1, q2, q3, q4, q5, q6, q7, q8, q9, q10, x0, x1, x2, x3, x4, x5, x6, x7, x8, x9, x10⟩)
              clear hK K q0 q1 q2 q3 q4 q5 q6 q7 q8 q9 q10 x0 x1 x2 x3 x4 x5 x6 x7 x8 x9 x10
              simp only [Act.put, List.setIfInBounds_toArray, List.set_cons_zero, List.set_cons_succ]
              refine held_take 15 30 (.bool false) rfl rfl (by kernel_rfl) (by kernel_rfl) (by kernel_rfl) (fun _ _ _ h => h) (by rfl) (by intro w' hSw; (try dsimp only at hSw); go_simp; (try (with_reducible rfl))) (by assumption) ?_
              simp only [Act.put, List.setIfInBounds_toArray, List.set_cons_zero, List.set_cons_succ]
              refine wpAnyH_done (by kernel_rfl) ?_ _
              clear hHeld
              go_wp2_with fail
              have HP := Lib.hid HP.out.drew
              have HRd := Lib.hid HRi.out.drew
              obtain ⟨x0, x1, x2, x3, x4, x5, x6, x7, x8, x9, x10⟩ := HRd.out.pdAt (Below.refl _ _) HXI.out
              obtain ⟨y0, y1, y2, y3, y4, y5, y6, y7, y8, y9, y10⟩ := HRd.out.pdAt (Below.refl _ _) HYJ.out
              refine wp_region_held_drew (S := (fun w' => w'.cell? ⟨b, off + i * 11, none⟩ = some (.string x.id) ∧ w'.cell? ⟨b, off + i * 11 + 1, none⟩ = some (.int .i64 x.prio) ∧ w'.cell? ⟨b, off + i * 11 + 2, none⟩ = some (.bool x.crit) ∧ w'.cell? ⟨b, off + i * 11 + 3, none⟩ = some (.int .i64 x.q0) ∧ w'.cell? ⟨b, off + i * 11 + 4, none⟩ = some (.int .i64 x.q1) ∧ w'.cell? ⟨b, off + i * 11 + 5, none⟩ = some (.int .i64 x.q2) ∧ w'.cell? ⟨b, off + i * 11 + 6, none⟩ = some (.int .i64 x.l0) ∧ w'.cell? ⟨b, off + i * 11 + 7, none⟩ = some (.int .i64 x.l1) ∧ w'.cell? ⟨b, off + i * 11 + 8, none⟩ = some (.int .i64 x.l2) ∧ w'.cell? ⟨b, off + i * 11 + 9, none⟩ = some (.string x.image) ∧ w'.cell? ⟨b, off + i * 11 + 10, none⟩ = some (.int .i64 x.size) ∧ w'.cell? ⟨b, off + j * 11, none⟩ = some (.string y.id) ∧ w'.cell? ⟨b, off + j * 11 + 1, none⟩ = some (.int .i64 y.prio) ∧ w'.cell? ⟨b, off + j * 11 + 2, none⟩ = some (.bool y.crit) ∧ w'.cell? ⟨b, off + j * 11 + 3, none⟩ = some (.int .i64 y.q0) ∧ w'.cell? ⟨b, off + j * 11 + 4, none⟩ = some (.int .i64 y.q1) ∧ w'.cell? ⟨b, off + j * 11 + 5, none⟩ = some (.int .i64 y.q2) ∧ w'.cell? ⟨b, off + j * 11 + 6, none⟩ = some (.int .i64 y.l0) ∧ w'.cell? ⟨b, off + j * 11 + 7, none⟩ = some (.int .i64 y.l1) ∧ w'.cell? ⟨b, off + j * 11 + 8, none⟩ = some (.int .i64 y.l2) ∧ w'.cell? ⟨b, off + j * 11 + 9, none⟩ = some (.string y.image) ∧ w'.cell? ⟨b, off + j * 11 + 10, none⟩ = some (.int .i64 y.size))) (by kernel_rfl) (⟨x0, x1, x2, x3, x4, x5, x6, x7, x8, x9, x10, y0, y1, y2, y3, y4, y5, y6, y7, y8, y9, y10⟩) (fun hHeld => ?_)
              clear x0 x1 x2 x3 x4 x5 x6 x7 x8 x9 x10 y0 y1 y2 y3 y4 y5 y6 y7 y8 y9 y10
              refine held_take 0 31 (.int .i64 j) rfl rfl (by kernel_rfl) (by kernel_rfl) (by kernel_rfl) (fun _ _ _ h => h) (by rfl) (by intro w' hSw; (try dsimp only at hSw); go_simp; (try (with_reducible rfl))) (by assumption) ?_
              simp only [Act.put, List.setIfInBounds_toArray, List.set_cons_zero, List.set_cons_succ]
              refine held_take 1 32 (.bool false) rfl rfl (by kernel_rfl) (by kernel_rfl) (by kernel_rfl) (fun _ _ _ h => h) (by rfl) (by intro w' hSw; (try dsimp only at hSw); go_simp; (try (with_reducible rfl))) (by assumption) ?_
              simp only [Act.put, List.setIfInBounds_toArray, List.set_cons_zero, List.set_cons_succ]
              refine held_take 2 33 (.bool false) rfl rfl (by kernel_rfl) (by kernel_rfl) (by kernel_rfl) (fun _ _ _ h => h) (by rfl) (by intro w' hSw; (try dsimp only at hSw); go_simp; (try (with_reducible rfl))) (by assumption) ?_
              simp only [Act.put, List.setIfInBounds_toArray, List.set_cons_zero, List.set_cons_succ]
              refine held_take 3 34 (.slice (some ⟨b, off, none⟩) l.length c) rfl rfl (by kernel_rfl) (by kernel_rfl) (by kernel_rfl) (fun _ _ _ h => h) (by rfl) (by intro w' hSw; (try dsimp only at hSw); go_simp; (try (with_reducible rfl))) (by assumption) ?_
              simp only [Act.put, List.setIfInBounds_toArray, List.set_cons_zero, List.set_cons_succ]
              refine held_take 4 35 (.int .i64 i) rfl rfl (by kernel_rfl) (by kernel_rfl) (by kernel_rfl) (fun _ _ _ h => h) (by rfl) (by intro w' hSw; (try dsimp only at hSw); go_simp; (try (with_reducible rfl))) (by assumption) ?_
              simp only [Act.put, List.setIfInBounds_toArray, List.set_cons_zero, List.set_cons_succ]
              refine held_take 5 36 (.pointer (some ⟨b, off + i * 11, none⟩)) rfl rfl (by kernel_rfl) (by kernel_rfl) (by kernel_rfl) (fun _ _ _ h => h) (by rfl) (by intro w' hSw; (try dsimp only at hSw); go_simp; (try (with_reducible rfl))) (by assumption) ?_
              simp only [Act.put, List.setIfInBounds_toArray, List.set_cons_zero, List.set_cons_succ]
              refine held_take 6 37 (.pointer (some ⟨b, off + i * 11 + 1, none⟩)) rfl rfl (by kernel_rfl) (by kernel_rfl) (by kernel_rfl) (fun _ _ _ h => h) (by rfl) (by intro w' hSw; (try dsimp only at hSw); go_simp; (try (with_reducible rfl))) (by assumption) ?_
              simp only [Act.put, List.setIfInBounds_toArray, List.set_cons_zero, List.set_cons_succ]
              refine held_take 7 38 (.int .i64 x.prio) rfl rfl (by kernel_rfl) (by kernel_rfl) (by kernel_rfl) (fun _ _ _ h => h) (by rfl) (by intro w' hSw; (try dsimp only at hSw); go_simp; (try (with_reducible rfl))) (by assumption) ?_
              simp only [Act.put, List.setIfInBounds_toArray, List.set_cons_zero, List.set_cons_succ]
              refine held_take 8 39 (.slice (some ⟨b, off, none⟩) l.length c) rfl rfl (by kernel_rfl) (by kernel_rfl) (by kernel_rfl) (fun _ _ _ h => h) (by rfl) (by intro w' hSw; (try dsimp only at hSw); go_simp; (try (with_reducible rfl))) (by assumption) ?_
              simp only [Act.put, List.setIfInBounds_toArray, List.set_cons_zero, List.set_cons_succ]
              refine held_take 9 40 (.int .i64 j) rfl rfl (by kernel_rfl) (by kernel_rfl) (by kernel_rfl) (fun _ _ _ h => h) (by rfl) (by intro w' hSw; (try dsimp only at hSw); go_simp; (try (with_reducible rfl))) (by assumption) ?_
              simp only [Act.put, List.setIfInBounds_toArray, List.set_cons_zero, List.set_cons_succ]
              refine held_take 10 41 (.pointer (some ⟨b, off + j * 11, none⟩)) rfl rfl (by kernel_rfl) (by kernel_rfl) (by kernel_rfl) (fun _ _ _ h => h) (by rfl) (by intro w' hSw; (try dsimp only at hSw); go_simp; (try (with_reducible rfl))) (by assumption) ?_
              simp only [Act.put, List.setIfInBounds_toArray, List.set_cons_zero, List.set_cons_succ]
              refine held_take 11 42 (.pointer (some ⟨b, off + j * 11 + 1, none⟩)) rfl rfl (by kernel_rfl) (by kernel_rfl) (by kernel_rfl) (fun _ _ _ h => h) (by rfl) (by intro w' hSw; (try dsimp only at hSw); go_simp; (try (with_reducible rfl))) (by assumption) ?_
              simp only [Act.put, List.setIfInBounds_toArray, List.set_cons_zero, List.set_cons_succ]
              refine held_take 12 43 (.int .i64 y.prio) rfl rfl (by kernel_rfl) (by kernel_rfl) (by kernel_rfl) (fun _ _ _ h => h) (by rfl) (by intro w' hSw; (try dsimp only at hSw); go_simp; (try (with_reducible rfl))) (by assumption) ?_
              simp only [Act.put, List.setIfInBounds_toArray, List.set_cons_zero, List.set_cons_succ]
              refine held_take 13 44 (.bool true) rfl rfl (by kernel_rfl) (by kernel_rfl) (by kernel_rfl) (fun _ _ _ h => h) (by rfl) (by intro w' hSw; (try dsimp only at hSw); go_simp; (first | done | with_reducible rfl | (have hh := HG.out; first | omega | (simp; omega)))) (by assumption) ?_
              simp only [Act.put, List.setIfInBounds_toArray, List.set_cons_zero, List.set_cons_succ]
              refine held_take 14 45 (.bool true) rfl rfl (by kernel_rfl) (by kernel_rfl) (by kernel_rfl) (fun _ _ _ h => h) (by rfl) (by intro w' hSw; (try dsimp only at hSw); go_simp; (try (with_reducible rfl))) (by assumption) ?_
              simp only [Act.put, List.setIfInBounds_toArray, List.set_cons_zero, List.set_cons_succ]
              refine held_take 15 46 (.bool true) rfl rfl (by kernel_rfl) (by kernel_rfl) (by kernel_rfl) (fun _ _ _ h => h) (by rfl) (by intro w' hSw; (try dsimp only at hSw); go_simp; (try (with_reducible rfl))) (by assumption) ?_
              simp only [Act.put, List.setIfInBounds_toArray, List.set_cons_zero, List.set_cons_succ]
              refine held_skip 16 47 rfl rfl (by kernel_rfl) (by kernel_rfl) (by kernel_rfl) (fun _ _ _ h => h) (by rfl) (by assumption) ?_
              simp only [Act.put, List.setIfInBounds_toArray, List.set_cons_zero, List.set_cons_succ]
              refine held_skip 17 48 rfl rfl (by kernel_rfl) (by kernel_rfl) (by kernel_rfl) (fun _ _ _ h => h) (by rfl) (by assumption) ?_
              simp only [Act.put, List.setIfInBounds_toArray, List.set_cons_zero, List.set_cons_succ]
              refine held_skip 18 49 rfl rfl (by kernel_rfl) (by kernel_rfl) (by kernel_rfl) (fun _ _ _ h => h) (by rfl) (by assumption) ?_
              simp only [Act.put, List.setIfInBounds_toArray, List.set_cons_zero, List.set_cons_succ]
              refine held_skip 19 50 rfl rfl (by kernel_rfl) (by kernel_rfl) (by kernel_rfl) (fun _ _ _ h => h) (by rfl) (by assumption) ?_
              simp only [Act.put, List.setIfInBounds_toArray, List.set_cons_zero, List.set_cons_succ]
              refine held_skip 20 51 rfl rfl (by kernel_rfl) (by kernel_rfl) (by kernel_rfl) (fun _ _ _ h => h) (by rfl) (by assumption) ?_
              simp only [Act.put, List.setIfInBounds_toArray, List.set_cons_zero, List.set_cons_succ]
              refine held_skip 21 52 rfl rfl (by kernel_rfl) (by kernel_rfl) (by kernel_rfl) (fun _ _ _ h => h) (by rfl) (by assumption) ?_
              simp only [Act.put, List.setIfInBounds_toArray, List.set_cons_zero, List.set_cons_succ]
              refine held_skip 22 53 rfl rfl (by kernel_rfl) (by kernel_rfl) (by kernel_rfl) (fun _ _ _ h => h) (by rfl) (by assumption) ?_
              simp only [Act.put, List.setIfInBounds_toArray, List.set_cons_zero, List.set_cons_succ]
              refine held_skip 23 54 rfl rfl (by kernel_rfl) (by kernel_rfl) (by kernel_rfl) (fun _ _ _ h => h) (by rfl) (by assumption) ?_
              simp only [Act.put, List.setIfInBounds_toArray, List.set_cons_zero, List.set_cons_succ]
              refine held_skip 24 55 rfl rfl (by kernel_rfl) (by kernel_rfl) (by kernel_rfl) (fun _ _ _ h => h) (by rfl) (by assumption) ?_
              simp only [Act.put, List.setIfInBounds_toArray, List.set_cons_zero, List.set_cons_succ]
              refine held_skip 25 56 rfl rfl (by kernel_rfl) (by kernel_rfl) (by kernel_rfl) (fun _ _ _ h => h) (by rfl) (by assumption) ?_
              simp only [Act.put, List.setIfInBounds_toArray, List.set_cons_zero, List.set_cons_succ]
              refine held_skip 26 57 rfl rfl (by kernel_rfl) (by kernel_rfl) (by kernel_rfl) (fun _ _ _ h => h) (by rfl) (by assumption) ?_
              simp only [Act.put, List.setIfInBounds_toArray, List.set_cons_zero, List.set_cons_succ]
              refine held_skip 27 58 rfl rfl (by kernel_rfl) (by kernel_rfl) (by kernel_rfl) (fun _ _ _ h => h) (by rfl) (by assumption) ?_
              simp only [Act.put, List.setIfInBounds_toArray, List.set_cons_zero, List.set_cons_succ]
              refine held_skip 28 59 rfl rfl (by kernel_rfl) (by kernel_rfl) (by kernel_rfl) (fun _ _ _ h => h) (by rfl) (by assumption) ?_
              simp only [Act.put, List.setIfInBounds_toArray, List.set_cons_zero, List.set_cons_succ]
              refine held_skip 29 60 rfl rfl (by kernel_rfl) (by kernel_rfl) (by kernel_rfl) (fun _ _ _ h => h) (by rfl) (by assumption) ?_
              simp only [Act.put, List.setIfInBounds_toArray, List.set_cons_zero, List.set_cons_succ]
              refine held_skip 30 61 rfl rfl (by kernel_rfl) (by kernel_rfl) (by kernel_rfl) (fun _ _ _ h => h) (by rfl) (by assumption) ?_
              simp only [Act.put, List.setIfInBounds_toArray, List.set_cons_zero, List.set_cons_succ]
              refine held_skip 31 62 rfl rfl (by kernel_rfl) (by kernel_rfl) (by kernel_rfl) (fun _ _ _ h => h) (by rfl) (by assumption) ?_
              simp only [Act.put, List.setIfInBounds_toArray, List.set_cons_zero, List.set_cons_succ]
              refine held_skip 32 63 rfl rfl (by kernel_rfl) (by kernel_rfl) (by kernel_rfl) (fun _ _ _ h => h) (by rfl) (by assumption) ?_
              simp only [Act.put, List.setIfInBounds_toArray, List.set_cons_zero, List.set_cons_succ]
              refine held_skip 33 64 rfl rfl (by kernel_rfl) (by kernel_rfl) (by kernel_rfl) (fun _ _ _ h => h) (by rfl) (by assumption) ?_
              simp only [Act.put, List.setIfInBounds_toArray, List.set_cons_zero, List.set_cons_succ]
              refine held_skip 34 65 rfl rfl (by kernel_rfl) (by kernel_rfl) (by kernel_rfl) (fun _ _ _ h => h) (by rfl) (by assumption) ?_
              simp only [Act.put, List.setIfInBounds_toArray, List.set_cons_zero, List.set_cons_succ]
              refine held_skip 35 66 rfl rfl (by kernel_rfl) (by kernel_rfl) (by kernel_rfl) (fun _ _ _ h => h) (by rfl) (by assumption) ?_
              simp only [Act.put, List.setIfInBounds_toArray, List.set_cons_zero, List.set_cons_succ]
              refine held_skip 36 67 rfl rfl (by kernel_rfl) (by kernel_rfl) (by kernel_rfl) (fun _ _ _ h => h) (by rfl) (by assumption) ?_
              simp only [Act.put, List.setIfInBounds_toArray, List.set_cons_zero, List.set_cons_succ]
              refine held_skip 37 68 rfl rfl (by kernel_rfl) (by kernel_rfl) (by kernel_rfl) (fun _ _ _ h => h) (by rfl) (by assumption) ?_
              simp only [Act.put, List.setIfInBounds_toArray, List.set_cons_zero, List.set_cons_succ]
              refine held_skip 38 69 rfl rfl (by kernel_rfl) (by kernel_rfl) (by kernel_rfl) (fun _ _ _ h => h) (by rfl) (by assumption) ?_
              simp only [Act.put, List.setIfInBounds_toArray, List.set_cons_zero, List.set_cons_succ]
              refine held_skip 39 70 rfl rfl (by kernel_rfl) (by kernel_rfl) (by kernel_rfl) (fun _ _ _ h => h) (by rfl) (by assumption) ?_
              simp only [Act.put, List.setIfInBounds_toArray, List.set_cons_zero, List.set_cons_succ]
              refine held_take 40 71 (.bool true) rfl rfl (by kernel_rfl) (by kernel_rfl) (by kernel_rfl) (fun _ _ _ h => h) (by rfl) (by intro w' hSw; (try dsimp only at hSw); go_simp; (try (with_reducible rfl))) (by assumption) ?_
              simp only [Act.put, List.setIfInBounds_toArray, List.set_cons_zero, List.set_cons_succ]
              refine wpAnyH_done (by kernel_rfl) ?_ _
              clear hHeld
              go_wp2_with fail
              go_roundw
              case rel => exact ⟨i + 1, (i : Int), by omega, rfl, by go_num, HN.out, HP.out⟩
              case measure => simp [intOf]; omega
            · by_cases h2 : x.prio = y.prio
              rotate_left
              · have HG := Lib.hid (And.intro h1 h2)
                have HN := Lib.hid (HWOR.out (vlt_no (by omega) fun h => absurd h h2))
                clear h1 h2 HBET HWOR
                go_wp2_with fail
                have HQd := Lib.hid HQ.out.drew
                have HRd := Lib.hid HRi.out.drew
                have HRAd := Lib.hid HRA.out.drew
                obtain ⟨q0, q1, q2, q3, q4, q5, q6, q7, q8, q9, q10⟩ := HQd.out.pb.pd
                obtain ⟨x0, x1, x2, x3, x4, x5, x6, x7, x8, x9, x10⟩ := HRd.out.pdAt (Below.refl _ _) HXI.out
                refine wp_region_held_drew (S := (fun w' => w'.cell? ⟨w.heap.size, 0, none⟩ = some (.string p.id) ∧ w'.cell? ⟨w.heap.size, 1, none⟩ = some (.int .i64 p.prio) ∧ w'.cell? ⟨w.heap.size, 2, none⟩ = some (.bool p.crit) ∧ w'.cell? ⟨w.heap.size, 3, none⟩ = some (.int .i64 p.q0) ∧ w'.cell? ⟨w.heap.size, 4, none⟩ = some (.int .i64 p.q1) ∧ w'.cell? ⟨w.heap.size, 5, none⟩ = some (.int .i64 p.q2) ∧ w'.cell? ⟨w.heap.size, 6, none⟩ = some (.int .i64 p.l0) ∧ w'.cell? ⟨w.heap.size, 7, none⟩ = some (.int .i64 p.l1) ∧ w'.cell? ⟨w.heap.size, 8, none⟩ = some (.int .i64 p.l2) ∧ w'.cell? ⟨w.heap.size, 9, none⟩ = some (.string p.image) ∧ w'.cell? ⟨w.heap.size, 10, none⟩ = some (.int .i64 p.size) ∧ w'.cell? ⟨b, off + i * 11, none⟩ = some (.string x.id) ∧ w'.cell? ⟨b, off + i * 11 + 1, none⟩ = some (.int .i64 x.prio) ∧ w'.cell? ⟨b, off + i * 11 + 2, none⟩ = some (.bool x.crit) ∧ w'.cell? ⟨b, off + i * 11 + 3, none⟩ = some (.int .i64 x.q0) ∧ w'.cell? ⟨b, off + i * 11 + 4, none⟩ = some (.int .i64 x.q1) ∧ w'.cell? ⟨b, off + i * 11 + 5, none⟩ = some (.int .i64 x.q2) ∧ w'.cell? ⟨b, off + i * 11 + 6, none⟩ = some (.int .i64 x.l0) ∧ w'.cell? ⟨b, off + i * 11 + 7, none⟩ = some (.int .i64 x.l1) ∧ w'.cell? ⟨b, off + i * 11 + 8, none⟩ = some (.int .i64 x.l2) ∧ w'.cell? ⟨b, off + i * 11 + 9, none⟩ = some (.string x.image) ∧ w'.cell? ⟨b, off + i * 11 + 10, none⟩ = some (.int .i64 x.size))) (by kernel_rfl) (⟨q0, q1, q2, q3, q4, q5, q6, q7, q8, q9, q10, x0, x1, x2, x3, x4, x5, x6, x7, x8, x9, x10⟩) (fun hHeld => ?_)
                clear q0 q1 q2 q3 q4 q5 q6 q7 q8 q9 q10 x0 x1 x2 x3 x4 x5 x6 x7 x8 x9 x10
                refine held_take 0 15 (.agg #[.string p.id, .int .i64 p.prio, .bool p.crit, .int .i64 p.q0, .int .i64 p.q1, .int .i64 p.q2, .int .i64 p.l0, .int .i64 p.l1, .int .i64 p.l2, .string p.image, .int .i64 p.size]) rfl rfl (by kernel_rfl) (by kernel_rfl) (by kernel_rfl) (fun _ _ _ h => h) (by rfl) (by intro w' hSw; (try dsimp only at hSw); go_simp; (try (with_reducible rfl))) (by assumption) ?_
                simp only [Act.put, List.setIfInBounds_toArray, List.set_cons_zero, List.set_cons_succ]
                refine held_take 1 16 (.slice (some ⟨b, off, none⟩) l.length c) rfl rfl (by kernel_rfl) (by kernel_rfl) (by kernel_rfl) (fun _ _ _ h => h) (by rfl) (by intro w' hSw; (try dsimp only at hSw); go_simp; (try (with_reducible rfl))) (by assumption) ?_
                simp only [Act.put, List.setIfInBounds_toArray, List.set_cons_zero, List.set_cons_succ]
                refine held_take 2 17 (.int .i64 i) rfl rfl (by kernel_rfl) (by kernel_rfl) (by kernel_rfl) (fun _ _ _ h => h) (by rfl) (by intro w' hSw; (try dsimp only at hSw); go_simp; (try (with_reducible rfl))) (by assumption) ?_
                simp only [Act.put, List.setIfInBounds_toArray, List.set_cons_zero, List.set_cons_succ]
                refine held_take 3 18 (.pointer (some ⟨b, off + i * 11, none⟩)) rfl rfl (by kernel_rfl) (by kernel_rfl) (by kernel_rfl) (fun _ _ _ h => h) (by rfl) (by intro w' hSw; (try dsimp only at hSw); go_simp; (try (with_reducible rfl))) (by assumption) ?_
                simp only [Act.put, List.setIfInBounds_toArray, List.set_cons_zero, List.set_cons_succ]
                refine held_take 4 19 (.agg #[.string x.id, .int .i64 x.prio, .bool x.crit, .int .i64 x.q0, .int .i64 x.q1, .int .i64 x.q2, .int .i64 x.l0, .int .i64 x.l1, .int .i64 x.l2, .string x.image, .int .i64 x.size]) rfl rfl (by kernel_rfl) (by kernel_rfl) (by kernel_rfl) (fun _ _ _ h => h) (by rfl) (by intro w' hSw; (try dsimp only at hSw); go_simp; (try (with_reducible rfl))) (by assumption) ?_
                simp only [Act.put, List.setIfInBounds_toArray, List.set_cons_zero, List.set_cons_succ]
                refine held_call 5 20 rfl rfl (by kernel_rfl) (by rfl) (fun K hK => ?_)
                go_simp
                go_at_call 49; with_reducible refine (refVmayV HM.out _).mono ?_; rintro e v1 ⟨rfl, hb⟩
                have HP := Lib.hid (HP.out.drew.trans (hb.mono HP.out.drew.size))
                have HQ := Lib.hid (HQd.out.below hb)
                have HRi := Lib.hid (HRd.out.below hb)
                have HRA := Lib.hid (HRAd.out.below hb)
                clear hb
                obtain ⟨q0, q1, q2, q3, q4, q5, q6, q7, q8, q9, q10⟩ := HQ.out.pb.pd
                obtain ⟨x0, x1, x2, x3, x4, x5, x6, x7, x8, x9, x10⟩ := HRi.out.pdAt (Below.refl _ _) HXI.out
                refine hK _ _ (⟨q0, q1, q2, q3, q4, q5, q6, q7, q8, q9, q10, x0, x1, x2, x3, x4, x5, x6, x7, x8, x9, x10⟩) ?_
                have hHeld := (show v1.cell? ⟨w.heap.size, 0, none⟩ = some (.string p.id) ∧ v1.cell? ⟨w.heap.size, 1, none⟩ = some (.int .i64 p.prio) ∧ v1.cell? ⟨w.heap.size, 2, none⟩ = some (.bool p.crit) ∧ v1.cell? ⟨w.heap.size, 3, none⟩ = some (.int .i64 p.q0) ∧ v1.cell? ⟨w.heap.size, 4, none⟩ = some (.int .i64 p.q1) ∧ v1.cell? ⟨w.heap.size, 5, none⟩ = some (.int .i64 p.q2) ∧ v1.cell? ⟨w.heap.size, 6, none⟩ = some (.int .i64 p.l0) ∧ v1.cell? ⟨w.heap.size, 7, none⟩ = some (.int .i64 p.l1) ∧ v1.cell? ⟨w.heap.size, 8, none⟩ = some (.int .i64 p.l2) ∧ v1.cell? ⟨w.heap.size, 9, none⟩ = some (.string p.image) ∧ v1.cell? ⟨w.heap.size, 10, none⟩ = some (.int .i64 p.size) ∧ v1.cell? ⟨b, off + i * 11, none⟩ = some (.string x.id) ∧ v1.cell? ⟨b, off + i * 11 + 1, none⟩ = some (.int .i64 x.prio) ∧ v1.cell? ⟨b, off + i * 11 + 2, none⟩ = some (.bool x.crit) ∧ v1.cell? ⟨b, off + i * 11 + 3, none⟩ = some (.int .i64 x.q0) ∧ v1.cell? ⟨b, off + i * 11 + 4, none⟩ = some (.int .i64 x.q1) ∧ v1.cell? ⟨b, off + i * 11 + 5, none⟩ = some (.int .i64 x.q2) ∧ v1.cell? ⟨b, off + i * 11 + 6, none⟩ = some (.int .i64 x.l0) ∧ v1.cell? ⟨b, off + i * 11 + 7, none⟩ = some (.int .i64 x.l1) ∧ v1.cell? ⟨b, off + i * 11 + 8, none⟩ = some (.int .i64 x.l2) ∧ v1.cell? ⟨b, off + i * 11 + 9, none⟩ = some (.string x.image) ∧ v1.cell? ⟨b, off + i * 11 + 10, none⟩ = some (.int .i64 x.size) from ⟨q0, q1, q2, q3, q4, q5, q6, q7, q8, q9, q10, x0, x1, x2, x3, x4, x5, x6, x7, x8, x9, x10⟩)
                clear hK K q0 q1 q2 q3 q4 q5 q6 q7 q8 q9 q10 x0 x1 x2 x3 x4 x5 x6 x7 x8 x9 x10
                simp only [Act.put, List.setIfInBounds_toArray, List.set_cons_zero, List.set_cons_succ]
                refine held_take 6 21 (.bool false) rfl rfl (by kernel_rfl) (by kernel_rfl) (by kernel_rfl) (fun _ _ _ h => h) (by rfl) (by intro w' hSw; (try dsimp only at hSw); go_simp; (try (with_reducible rfl))) (by assumption) ?_
                simp only [Act.put, List.setIfInBounds_toArray, List.set_cons_zero, List.set_cons_succ]
                refine held_take 7 22 (.bool false) rfl rfl (by kernel_rfl) (by kernel_rfl) (by kernel_rfl) (fun _ _ _ h => h) (by rfl) (by intro w' hSw; (try dsimp only at hSw); go_simp; (try (with_reducible rfl))) (by assumption) ?_
                simp only [Act.put, List.setIfInBounds_toArray, List.set_cons_zero, List.set_cons_succ]
                refine held_take 8 23 (.slice B asked.length d) rfl rfl (by kernel_rfl) (by kernel_rfl) (by kernel_rfl) (fun _ _ _ h => h) (by rfl) (by intro w' hSw; (try dsimp only at hSw); go_simp; (try (with_reducible rfl))) (by assumption) ?_
                simp only [Act.put, List.setIfInBounds_toArray, List.set_cons_zero, List.set_cons_succ]
                refine held_take 9 24 (.slice (some ⟨b, off, none⟩) l.length c) rfl rfl (by kernel_rfl) (by kernel_rfl) (by kernel_rfl) (fun _ _ _ h => h) (by rfl) (by intro w' hSw; (try dsimp only at hSw); go_simp; (try (with_reducible rfl))) (by assumption) ?_
                simp only [Act.put, List.setIfInBounds_toArray, List.set_cons_zero, List.set_cons_succ]
                refine held_take 10 25 (.int .i64 i) rfl rfl (by kernel_rfl) (by kernel_rfl) (by kernel_rfl) (fun _ _ _ h => h) (by rfl) (by intro w' hSw; (try dsimp only at hSw); go_simp; (try (with_reducible rfl))) (by assumption) ?_
                simp only [Act.put, List.setIfInBounds_toArray, List.set_cons_zero, List.set_cons_succ]
                refine held_take 11 26 (.pointer (some ⟨b, off + i * 11, none⟩)) rfl rfl (by kernel_rfl) (by kernel_rfl) (by kernel_rfl) (fun _ _ _ h => h) (by rfl) (by intro w' hSw; (try dsimp only at hSw); go_simp; (try (with_reducible rfl))) (by assumption) ?_
                simp only [Act.put, List.setIfInBounds_toArray, List.set_cons_zero, List.set_cons_succ]
                refine held_take 12 27 (.pointer (some ⟨b, off + i * 11, none⟩)) rfl rfl (by kernel_rfl) (by kernel_rfl) (by kernel_rfl) (fun _ _ _ h => h) (by rfl) (by intro w' hSw; (try dsimp only at hSw); go_simp; (try (with_reducible rfl))) (by assumption) ?_
                simp only [Act.put, List.setIfInBounds_toArray, List.set_cons_zero, List.set_cons_succ]
                refine held_take 13 28 (.string x.id) rfl rfl (by kernel_rfl) (by kernel_rfl) (by kernel_rfl) (fun _ _ _ h => h) (by rfl) (by intro w' hSw; (try dsimp only at hSw); go_simp; (try (with_reducible rfl))) (by assumption) ?_
                simp only [Act.put, List.setIfInBounds_toArray, List.set_cons_zero, List.set_cons_succ]
                refine held_call 14 29 rfl rfl (by kernel_rfl) (by rfl) (fun K hK => ?_)
                go_simp
                go_at_call 50; with_reducible refine (hasV HH.out B d _ HRA.out (by omega)).mono ?_; rintro e v2 ⟨rfl, rfl⟩
                obtain ⟨q0, q1, q2, q3, q4, q5, q6, q7, q8, q9, q10⟩ := HQ.out.pb.pd
                obtain ⟨x0, x1, x2, x3, x4, x5, x6, x7, x8, x9, x10⟩ := HRi.out.pdAt (Below.refl _ _) HXI.out
                refine hK _ _ (⟨q0, q1, q2, q3, q4, q5, q6, q7, q8, q9, q10, x0, x1, x2, x3, x4, x5, x6, x7, x8, x9, x10⟩) ?_
                have hHeld := (show v1.cell? ⟨w.heap.size, 0, none⟩ = some (.string p.id) ∧ v1.cell? ⟨w.heap.size, 1, none⟩ = some (.int .i64 p.prio) ∧ v1.cell? ⟨w.heap.size, 2, none⟩ = some (.bool p.crit) ∧ v1.cell? ⟨w.heap.size, 3, none⟩ = some (.int .i64 p.q0) ∧ v1.cell? ⟨w.heap.size, 4, none⟩ = some (.int .i64 p.q1) ∧ v1.cell? ⟨w.heap.size, 5, none⟩ = some (.int .i64 p.q2) ∧ v1.cell? ⟨w.heap.size, 6, none⟩ = some (.int .i64 p.l0) ∧ v1.cell? ⟨w.heap.size, 7, none⟩ = some (.int .i64 p.l1) ∧ v1.cell? ⟨w.heap.size, 8, none⟩ = some (.int .i64 p.l2) ∧ v1.cell? ⟨w.heap.size, 9, none⟩ = some (.string p.image) ∧ v1.cell? ⟨w.heap.size, 10, none⟩ = some (.int .i64 p.size) ∧ v1.cell? ⟨b, off + i * 11, none⟩ = some (.string x.id) ∧ v1.cell? ⟨b, off + i * 11 + 1, none⟩ = some (.int .i64 x.prio) ∧ v1.cell? ⟨b, off + i * 11 + 2, none⟩ = some (.bool x.crit) ∧ v1.cell? ⟨b, off + i * 11 + 3, none⟩ = some (.int .i64 x.q0) ∧ v1.cell? ⟨b, off + i * 11 + 4, none⟩ = some (.int .i64 x.q1) ∧ v1.cell? ⟨b, off + i * 11 + 5, none⟩ = some (.int .i64 x.q2) ∧ v1.cell? ⟨b, off + i * 11 + 6, none⟩ = some (.int .i64 x.l0) ∧ v1.cell? ⟨b, off + i * 11 + 7, none⟩ = some (.int .i64 x.l1) ∧ v1.cell? ⟨b, off + i * 11 + 8, none⟩ = some (.int .i64 x.l2) ∧ v1.cell? ⟨b, off + i * 11 + 9, none⟩ = some (.string x.image) ∧ v1.cell? ⟨b, off + i * 11 + 10, none⟩ = some (.int .i64 x.size) from ⟨q0, q1, q2, q3, q4, q5, q6, q7, q8, q9, q10, x0, x1, x2, x3, x4, x5, x6, x7, x8, x9, x10⟩)
                clear hK K q0 q1 q2 q3 q4 q5 q6 q7 q8 q9 q10 x0 x1 x2 x3 x4 x5 x6 x7 x8 x9 x10
                simp only [Act.put, List.setIfInBounds_toArray, List.set_cons_zero, List.set_cons_succ]
                refine held_take 15 30 (.bool false) rfl rfl (by kernel_rfl) (by kernel_rfl) (by kernel_rfl) (fun _ _ _ h => h) (by rfl) (by intro w' hSw; (try dsimp only at hSw); go_simp; (try (with_reducible rfl))) (by assumption) ?_
                simp only [Act.put, List.setIfInBounds_toArray, List.set_cons_zero, List.set_cons_succ]
                refine wpAnyH_done (by kernel_rfl) ?_ _
                clear hHeld
                go_wp2_with fail
                have HP := Lib.hid HP.out.drew
                have HRd := Lib.hid HRi.out.drew
                obtain ⟨x0, x1, x2, x3, x4, x5, x6, x7, x8, x9, x10⟩ := HRd.out.pdAt (Below.refl _ _) HXI.out
                obtain ⟨y0, y1, y2, y3, y4, y5, y6, y7, y8, y9, y10⟩ := HRd.out.pdAt (Below.refl _ _) HYJ.out
                refine wp_region_held_drew (S := (fun w' => w'.cell? ⟨b, off + i * 11, none⟩ = some (.string x.id) ∧ w'.cell? ⟨b, off + i * 11 + 1, none⟩ = some (.int .i64 x.prio) ∧ w'.cell? ⟨b, off + i * 11 + 2, none⟩ = some (.bool x.crit) ∧ w'.cell? ⟨b, off + i * 11 + 3, none⟩ = some (.int .i64 x.q0) ∧ w'.cell? ⟨b, off + i * 11 + 4, none⟩ = some (.int .i64 x.q1) ∧ w'.cell? ⟨b, off + i * 11 + 5, none⟩ = some (.int .i64 x.q2) ∧ w'.cell? ⟨b, off + i * 11 + 6, none⟩ = some (.int .i64 x.l0) ∧ w'.cell? ⟨b, off + i * 11 + 7, none⟩ = some (.int .i64 x.l1) ∧ w'.cell? ⟨b, off + i * 11 + 8, none⟩ = some (.int .i64 x.l2) ∧ w'.cell? ⟨b, off + i * 11 + 9, none⟩ = some (.string x.image) ∧ w'.cell? ⟨b, off + i * 11 + 10, none⟩ = some (.int .i64 x.size) ∧ w'.cell? ⟨b, off + j * 11, none⟩ = some (.string y.id) ∧ w'.cell? ⟨b, off + j * 11 + 1, none⟩ = some (.int .i64 y.prio) ∧ w'.cell? ⟨b, off + j * 11 + 2, none⟩ = some (.bool y.crit) ∧ w'.cell? ⟨b, off + j * 11 + 3, none⟩ = some (.int .i64 y.q0) ∧ w'.cell? ⟨b, off + j * 11 + 4, none⟩ = some (.int .i64 y.q1) ∧ w'.cell? ⟨b, off + j * 11 + 5, none⟩ = some (.int .i64 y.q2) ∧ w'.cell? ⟨b, off + j * 11 + 6, none⟩ = some (.int .i64 y.l0) ∧ w'.cell? ⟨b, off + j * 11 + 7, none⟩ = some (.int .i64 y.l1) ∧ w'.cell? ⟨b, off + j * 11 + 8, none⟩ = some (.int .i64 y.l2) ∧ w'.cell? ⟨b, off + j * 11 + 9, none⟩ = some (.string y.image) ∧ w'.cell? ⟨b, off + j * 11 + 10, none⟩ = some (.int .i64 y.size))) (by kernel_rfl) (⟨x0, x1, x2, x3, x4, x5, x6, x7, x8, x9, x10, y0, y1, y2, y3, y4, y5, y6, y7, y8, y9, y10⟩) (fun hHeld => ?_)
                clear x0 x1 x2 x3 x4 x5 x6 x7 x8 x9 x10 y0 y1 y2 y3 y4 y5 y6 y7 y8 y9 y10
                refine held_take 0 31 (.int .i64 j) rfl rfl (by kernel_rfl) (by kernel_rfl) (by kernel_rfl) (fun _ _ _ h => h) (by rfl) (by intro w' hSw; (try dsimp only at hSw); go_simp; (try (with_reducible rfl))) (by assumption) ?_
                simp only [Act.put, List.setIfInBounds_toArray, List.set_cons_zero, List.set_cons_succ]
                refine held_take 1 32 (.bool false) rfl rfl (by kernel_rfl) (by kernel_rfl) (by kernel_rfl) (fun _ _ _ h => h) (by rfl) (by intro w' hSw; (try dsimp only at hSw); go_simp; (try (with_reducible rfl))) (by assumption) ?_
                simp only [Act.put, List.setIfInBounds_toArray, List.set_cons_zero, List.set_cons_succ]
                refine held_take 2 33 (.bool false) rfl rfl (by kernel_rfl) (by kernel_rfl) (by kernel_rfl) (fun _ _ _ h => h) (by rfl) (by intro w' hSw; (try dsimp only at hSw); go_simp; (try (with_reducible rfl))) (by assumption) ?_
                simp only [Act.put, List.setIfInBounds_toArray, List.set_cons_zero, List.set_cons_succ]
                refine held_take 3 34 (.slice (some ⟨b, off, none⟩) l.length c) rfl rfl (by kernel_rfl) (by kernel_rfl) (by kernel_rfl) (fun _ _ _ h => h) (by rfl) (by intro w' hSw; (try dsimp only at hSw); go_simp; (try (with_reducible rfl))) (by assumption) ?_
                simp only [Act.put, List.setIfInBounds_toArray, List.set_cons_zero, List.set_cons_succ]
                refine held_take 4 35 (.int .i64 i) rfl rfl (by kernel_rfl) (by kernel_rfl) (by kernel_rfl) (fun _ _ _ h => h) (by rfl) (by intro w' hSw; (try dsimp only at hSw); go_simp; (try (with_reducible rfl))) (by assumption) ?_
                simp only [Act.put, List.setIfInBounds_toArray, List.set_cons_zero, List.set_cons_succ]
                refine held_take 5 36 (.pointer (some ⟨b, off + i * 11, none⟩)) rfl rfl (by kernel_rfl) (by kernel_rfl) (by kernel_rfl) (fun _ _ _ h => h) (by rfl) (by intro w' hSw; (try dsimp only at hSw); go_simp; (try (with_reducible rfl))) (by assumption) ?_
                simp only [Act.put, List.setIfInBounds_toArray, List.set_cons_zero, List.set_cons_succ]
                refine held_take 6 37 (.pointer (some ⟨b, off + i * 11 + 1, none⟩)) rfl rfl (by kernel_rfl) (by kernel_rfl) (by kernel_rfl) (fun _ _ _ h => h) (by rfl) (by intro w' hSw; (try dsimp only at hSw); go_simp; (try (with_reducible rfl))) (by assumption) ?_
                simp only [Act.put, List.setIfInBounds_toArray, List.set_cons_zero, List.set_cons_succ]
                refine held_take 7 38 (.int .i64 x.prio) rfl rfl (by kernel_rfl) (by kernel_rfl) (by kernel_rfl) (fun _ _ _ h => h) (by rfl) (by intro w' hSw; (try dsimp only at hSw); go_simp; (try (with_reducible rfl))) (by assumption) ?_
                simp only [Act.put, List.setIfInBounds_toArray, List.set_cons_zero, List.set_cons_succ]
                refine held_take 8 39 (.slice (some ⟨b, off, none⟩) l.length c) rfl rfl (by kernel_rfl) (by kernel_rfl) (by kernel_rfl) (fun _ _ _ h => h) (by rfl) (by intro w' hSw; (try dsimp only at hSw); go_simp; (try (with_reducible rfl))) (by assumption) ?_
                simp only [Act.put, List.setIfInBounds_toArray, List.set_cons_zero, List.set_cons_succ]
                refine held_take 9 40 (.int .i64 j) rfl rfl (by kernel_rfl) (by kernel_rfl) (by kernel_rfl) (fun _ _ _ h => h) (by rfl) (by intro w' hSw; (try dsimp only at hSw); go_simp; (try (with_reducible rfl))) (by assumption) ?_
                simp only [Act.put, List.setIfInBounds_toArray, List.set_cons_zero, List.set_cons_succ]
                refine held_take 10 41 (.pointer (some ⟨b, off + j * 11, none⟩)) rfl rfl (by kernel_rfl) (by kernel_rfl) (by kernel_rfl) (fun _ _ _ h => h) (by rfl) (by intro w' hSw; (try dsimp only at hSw); go_simp; (try (with_reducible rfl))) (by assumption) ?_
                simp only [Act.put, List.setIfInBounds_toArray, List.set_cons_zero, List.set_cons_succ]
                refine held_take 11 42 (.pointer (some ⟨b, off + j * 11 + 1, none⟩)) rfl rfl (by kernel_rfl) (by kernel_rfl) (by kernel_rfl) (fun _ _ _ h => h) (by rfl) (by intro w' hSw; (try dsimp only at hSw); go_simp; (try (with_reducible rfl))) (by assumption) ?_
                simp only [Act.put, List.setIfInBounds_toArray, List.set_cons_zero, List.set_cons_succ]
                refine held_take 12 43 (.int .i64 y.prio) rfl rfl (by kernel_rfl) (by kernel_rfl) (by kernel_rfl) (fun _ _ _ h => h) (by rfl) (by intro w' hSw; (try dsimp only at hSw); go_simp; (try (with_reducible rfl))) (by assumption) ?_
                simp only [Act.put, List.setIfInBounds_toArray, List.set_cons_zero, List.set_cons_succ]
                refine held_take 13 44 (.bool false) rfl rfl (by kernel_rfl) (by kernel_rfl) (by kernel_rfl) (fun _ _ _ h => h) (by rfl) (by intro w' hSw; (try dsimp only at hSw); go_simp; (first | done | with_reducible rfl | (have hh := HG.out; first | omega | (simp; omega)))) (by assumption) ?_
                simp only [Act.put, List.setIfInBounds_toArray, List.set_cons_zero, List.set_cons_succ]
                refine held_take 14 45 (.bool false) rfl rfl (by kernel_rfl) (by kernel_rfl) (by kernel_rfl) (fun _ _ _ h => h) (by rfl) (by intro w' hSw; (try dsimp only at hSw); go_simp; (try (with_reducible rfl))) (by assumption) ?_
                simp only [Act.put, List.setIfInBounds_toArray, List.set_cons_zero, List.set_cons_succ]
                refine held_take 15 46 (.bool false) rfl rfl (by kernel_rfl) (by kernel_rfl) (by kernel_rfl) (fun _ _ _ h => h) (by rfl) (by intro w' hSw; (try dsimp only at hSw); go_simp; (try (with_reducible rfl))) (by assumption) ?_
                simp only [Act.put, List.setIfInBounds_toArray, List.set_cons_zero, List.set_cons_succ]
                refine held_take 16 47 (.slice (some ⟨b, off, none⟩) l.length c) rfl rfl (by kernel_rfl) (by kernel_rfl) (by kernel_rfl) (fun _ _ _ h => h) (by rfl) (by intro w' hSw; (try dsimp only at hSw); go_simp; (try (with_reducible rfl))) (by assumption) ?_
                simp only [Act.put, List.setIfInBounds_toArray, List.set_cons_zero, List.set_cons_succ]
                refine held_take 17 48 (.int .i64 i) rfl rfl (by kernel_rfl) (by kernel_rfl) (by kernel_rfl) (fun _ _ _ h => h) (by rfl) (by intro w' hSw; (try dsimp only at hSw); go_simp; (try (with_reducible rfl))) (by assumption) ?_
                simp only [Act.put, List.setIfInBounds_toArray, List.set_cons_zero, List.set_cons_succ]
                refine held_take 18 49 (.pointer (some ⟨b, off + i * 11, none⟩)) rfl rfl (by kernel_rfl) (by kernel_rfl) (by kernel_rfl) (fun _ _ _ h => h) (by rfl) (by intro w' hSw; (try dsimp only at hSw); go_simp; (try (with_reducible rfl))) (by assumption) ?_
                simp only [Act.put, List.setIfInBounds_toArray, List.set_cons_zero, List.set_cons_succ]
                refine held_take 19 50 (.pointer (some ⟨b, off + i * 11 + 1, none⟩)) rfl rfl (by kernel_rfl) (by kernel_rfl) (by kernel_rfl) (fun _ _ _ h => h) (by rfl) (by intro w' hSw; (try dsimp only at hSw); go_simp; (try (with_reducible rfl))) (by assumption) ?_
                simp only [Act.put, List.setIfInBounds_toArray, List.set_cons_zero, List.set_cons_succ]
                refine held_take 20 51 (.int .i64 x.prio) rfl rfl (by kernel_rfl) (by kernel_rfl) (by kernel_rfl) (fun _ _ _ h => h) (by rfl) (by intro w' hSw; (try dsimp only at hSw); go_simp; (try (with_reducible rfl))) (by assumption) ?_
                simp only [Act.put, List.setIfInBounds_toArray, List.set_cons_zero, List.set_cons_succ]
                refine held_take 21 52 (.slice (some ⟨b, off, none⟩) l.length c) rfl rfl (by kernel_rfl) (by kernel_rfl) (by kernel_rfl) (fun _ _ _ h => h) (by rfl) (by intro w' hSw; (try dsimp only at hSw); go_simp; (try (with_reducible rfl))) (by assumption) ?_
                simp only [Act.put, List.setIfInBounds_toArray, List.set_cons_zero, List.set_cons_succ]
                refine held_take 22 53 (.int .i64 j) rfl rfl (by kernel_rfl) (by kernel_rfl) (by kernel_rfl) (fun _ _ _ h => h) (by rfl) (by intro w' hSw; (try dsimp only at hSw); go_simp; (try (with_reducible rfl))) (by assumption) ?_
                simp only [Act.put, List.setIfInBounds_toArray, List.set_cons_zero, List.set_cons_succ]
                refine held_take 23 54 (.pointer (some ⟨b, off + j * 11, none⟩)) rfl rfl (by kernel_rfl) (by kernel_rfl) (by kernel_rfl) (fun _ _ _ h => h) (by rfl) (by intro w' hSw; (try dsimp only at hSw); go_simp; (try (with_reducible rfl))) (by assumption) ?_
                simp only [Act.put, List.setIfInBounds_toArray, List.set_cons_zero, List.set_cons_succ]
                refine held_take 24 55 (.pointer (some ⟨b, off + j * 11 + 1, none⟩)) rfl rfl (by kernel_rfl) (by kernel_rfl) (by kernel_rfl) (fun _ _ _ h => h) (by rfl) (by intro w' hSw; (try dsimp only at hSw); go_simp; (try (with_reducible rfl))) (by assumption) ?_
                simp only [Act.put, List.setIfInBounds_toArray, List.set_cons_zero, List.set_cons_succ]
                refine held_take 25 56 (.int .i64 y.prio) rfl rfl (by kernel_rfl) (by kernel_rfl) (by kernel_rfl) (fun _ _ _ h => h) (by rfl) (by intro w' hSw; (try dsimp only at hSw); go_simp; (try (with_reducible rfl))) (by assumption) ?_
                simp only [Act.put, List.setIfInBounds_toArray, List.set_cons_zero, List.set_cons_succ]
                refine held_take 26 57 (.bool false) rfl rfl (by kernel_rfl) (by kernel_rfl) (by kernel_rfl) (fun _ _ _ h => h) (by rfl) (by intro w' hSw; (try dsimp only at hSw); go_simp; (first | done | with_reducible rfl | (have hh := HG.out; first | omega | (simp; omega)))) (by assumption) ?_
                simp only [Act.put, List.setIfInBounds_toArray, List.set_cons_zero, List.set_cons_succ]
                refine held_take 27 58 (.bool false) rfl rfl (by kernel_rfl) (by kernel_rfl) (by kernel_rfl) (fun _ _ _ h => h) (by rfl) (by intro w' hSw; (try dsimp only at hSw); go_simp; (try (with_reducible rfl))) (by assumption) ?_
                simp only [Act.put, List.setIfInBounds_toArray, List.set_cons_zero, List.set_cons_succ]
                refine held_skip 28 59 rfl rfl (by kernel_rfl) (by kernel_rfl) (by kernel_rfl) (fun _ _ _ h => h) (by rfl) (by assumption) ?_
                simp only [Act.put, List.setIfInBounds_toArray, List.set_cons_zero, List.set_cons_succ]
                refine held_skip 29 60 rfl rfl (by kernel_rfl) (by kernel_rfl) (by kernel_rfl) (fun _ _ _ h => h) (by rfl) (by assumption) ?_
                simp only [Act.put, List.setIfInBounds_toArray, List.set_cons_zero, List.set_cons_succ]
                refine held_skip 30 61 rfl rfl (by kernel_rfl) (by kernel_rfl) (by kernel_rfl) (fun _ _ _ h => h) (by rfl) (by assumption) ?_
                simp only [Act.put, List.setIfInBounds_toArray, List.set_cons_zero, List.set_cons_succ]
                refine held_skip 31 62 rfl rfl (by kernel_rfl) (by kernel_rfl) (by kernel_rfl) (fun _ _ _ h => h) (by rfl) (by assumption) ?_
                simp only [Act.put, List.setIfInBounds_toArray, List.set_cons_zero, List.set_cons_succ]
                refine held_skip 32 63 rfl rfl (by kernel_rfl) (by kernel_rfl) (by kernel_rfl) (fun _ _ _ h => h) (by rfl) (by assumption) ?_
                simp only [Act.put, List.setIfInBounds_toArray, List.set_cons_zero, List.set_cons_succ]
                refine held_skip 33 64 rfl rfl (by kernel_rfl) (by kernel_rfl) (by kernel_rfl) (fun _ _ _ h => h) (by rfl) (by assumption) ?_
                simp only [Act.put, List.setIfInBounds_toArray, List.set_cons_zero, List.set_cons_succ]
                refine held_skip 34 65 rfl rfl (by kernel_rfl) (by kernel_rfl) (by kernel_rfl) (fun _ _ _ h => h) (by rfl) (by assumption) ?_
                simp only [Act.put, List.setIfInBounds_toArray, List.set_cons_zero, List.set_cons_succ]
                refine held_skip 35 66 rfl rfl (by kernel_rfl) (by kernel_rfl) (by kernel_rfl) (fun _ _ _ h => h) (by rfl) (by assumption) ?_
                simp only [Act.put, List.setIfInBounds_toArray, List.set_cons_zero, List.set_cons_succ]
                refine held_skip 36 67 rfl rfl (by kernel_rfl) (by kernel_rfl) (by kernel_rfl) (fun _ _ _ h => h) (by rfl) (by assumption) ?_
                simp only [Act.put, List.setIfInBounds_toArray, List.set_cons_zero, List.set_cons_succ]
                refine held_skip 37 68 rfl rfl (by kernel_rfl) (by kernel_rfl) (by kernel_rfl) (fun _ _ _ h => h) (by rfl) (by assumption) ?_
                simp only [Act.put, List.setIfInBounds_toArray, List.set_cons_zero, List.set_cons_succ]
                refine held_skip 38 69 rfl rfl (by kernel_rfl) (by kernel_rfl) (by kernel_rfl) (fun _ _ _ h => h) (by rfl) (by assumption) ?_
                simp only [Act.put, List.setIfInBounds_toArray, List.set_cons_zero, List.set_cons_succ]
                refine held_take 39 70 (.bool false) rfl rfl (by kernel_rfl) (by kernel_rfl) (by kernel_rfl) (fun _ _ _ h => h) (by rfl) (by intro w' hSw; (try dsimp only at hSw); go_simp; (try (with_reducible rfl))) (by assumption) ?_
                simp only [Act.put, List.setIfInBounds_toArray, List.set_cons_zero, List.set_cons_succ]
                refine held_take 40 71 (.bool false) rfl rfl (by kernel_rfl) (by kernel_rfl) (by kernel_rfl) (fun _ _ _ h => h) (by rfl) (by intro w' hSw; (try dsimp only at hSw); go_simp; (try (with_reducible rfl))) (by assumption) ?_
                simp only [Act.put, List.setIfInBounds_toArray, List.set_cons_zero, List.set_cons_succ]
                refine wpAnyH_done (by kernel_rfl) ?_ _
                clear hHeld
                go_wp2_with fail
                go_roundw
                case rel => exact ⟨i + 1, (j : Int), by omega, rfl, by go_num, HN.out, HP.out⟩
                case measure => simp [intOf]; omega
              · cases h3 : blt x.id y.id
                · have HG := Lib.hid h2
                  have HBL := Lib.hid h3
                  have HN := Lib.hid (HWOR.out (vlt_no (by omega) fun _ => h3))
                  clear h1 h2 h3 HBET HWOR
                  go_wp2_with fail
                  have HQd := Lib.hid HQ.out.drew
                  have HRd := Lib.hid HRi.out.drew
                  have HRAd := Lib.hid HRA.out.drew
                  obtain ⟨q0, q1, q2, q3, q4, q5, q6, q7, q8, q9, q10⟩ := HQd.out.pb.pd
                  obtain ⟨x0, x1, x2, x3, x4, x5, x6, x7, x8, x9, x10⟩ := HRd.out.pdAt (Below.refl _ _) HXI.out
                  refine wp_region_held_drew (S := (fun w' => w'.cell? ⟨w.heap.size, 0, none⟩ = some (.string p.id) ∧ w'.cell? ⟨w.heap.size, 1, none⟩ = some (.int .i64 p.prio) ∧ w'.cell? ⟨w.heap.size, 2, none⟩ = some (.bool p.crit) ∧ w'.cell? ⟨w.heap.size, 3, none⟩ = some (.int .i64 p.q0) ∧ w'.cell? ⟨w.heap.size, 4, none⟩ = some (.int .i64 p.q1) ∧ w'.cell? ⟨w.heap.size, 5, none⟩ = some (.int .i64 p.q2) ∧ w'.cell? ⟨w.heap.size, 6, none⟩ = some (.int .i64 p.l0) ∧ w'.cell? ⟨w.heap.size, 7, none⟩ = some (.int .i64 p.l1) ∧ w'.cell? ⟨w.heap.size, 8, none⟩ = some (.int .i64 p.l2) ∧ w'.cell? ⟨w.heap.size, 9, none⟩ = some (.string p.image) ∧ w'.cell? ⟨w.heap.size, 10, none⟩ = some (.int .i64 p.size) ∧ w'.cell? ⟨b, off + i * 11, none⟩ = some (.string x.id) ∧ w'.cell? ⟨b, off + i * 11 + 1, none⟩ = some (.int .i64 x.prio) ∧ w'.cell? ⟨b, off + i * 11 + 2, none⟩ = some (.bool x.crit) ∧ w'.cell? ⟨b, off + i * 11 + 3, none⟩ = some (.int .i64 x.q0) ∧ w'.cell? ⟨b, off + i * 11 + 4, none⟩ = some (.int .i64 x.q1) ∧ w'.cell? ⟨b, off + i * 11 + 5, none⟩ = some (.int .i64 x.q2) ∧ w'.cell? ⟨b, off + i * 11 + 6, none⟩ = some (.int .i64 x.l0) ∧ w'.cell? ⟨b, off + i * 11 + 7, none⟩ = some (.int .i64 x.l1) ∧ w'.cell? ⟨b, off + i * 11 + 8, none⟩ = some (.int .i64 x.l2) ∧ w'.cell? ⟨b, off + i * 11 + 9, none⟩ = some (.string x.image) ∧ w'.cell? ⟨b, off + i * 11 + 10, none⟩ = some (.int .i64 x.size))) (by kernel_rfl) (⟨q0, q1, q2, q3, q4, q5, q6, q7, q8, q9, q10, x0, x1, x2, x3, x4, x5, x6, x7, x8, x9, x10⟩) (fun hHeld => ?_)
                  clear q0 q1 q2 q3 q4 q5 q6 q7 q8 q9 q10 x0 x1 x2 x3 x4 x5 x6 x7 x8 x9 x10
                  refine held_take 0 15 (.agg #[.string p.id, .int .i64 p.prio, .bool p.crit, .int .i64 p.q0, .int .i64 p.q1, .int .i64 p.q2, .int .i64 p.l0, .int .i64 p.l1, .int .i64 p.l2, .string p.image, .int .i64 p.size]) rfl rfl (by kernel_rfl) (by kernel_rfl) (by kernel_rfl) (fun _ _ _ h => h) (by rfl) (by intro w' hSw; (try dsimp only at hSw); go_simp; (try (with_reducible rfl))) (by assumption) ?_
                  simp only [Act.put, List.setIfInBounds_toArray, List.set_cons_zero, List.set_cons_succ]
                  refine held_take 1 16 (.slice (some ⟨b, off, none⟩) l.length c) rfl rfl (by kernel_rfl) (by kernel_rfl) (by kernel_rfl) (fun _ _ _ h => h) (by rfl) (by intro w' hSw; (try dsimp only at hSw); go_simp; (try (with_reducible rfl))) (by assumption) ?_
                  simp only [Act.put, List.setIfInBounds_toArray, List.set_cons_zero, List.set_cons_succ]
                  refine held_take 2 17 (.int .i64 i) rfl rfl (by kernel_rfl) (by kernel_rfl) (by kernel_rfl) (fun _ _ _ h => h) (by rfl) (by intro w' hSw; (try dsimp only at hSw); go_simp; (try (with_reducible rfl))) (by assumption) ?_
                  simp only [Act.put, List.setIfInBounds_toArray, List.set_cons_zero, List.set_cons_succ]
                  refine held_take 3 18 (.pointer (some ⟨b, off + i * 11, none⟩)) rfl rfl (by kernel_rfl) (by kernel_rfl) (by kernel_rfl) (fun _ _ _ h => h) (by rfl) (by intro w' hSw; (try dsimp only at hSw); go_simp; (try (with_reducible rfl))) (by assumption) ?_
                  simp only [Act.put, List.setIfInBounds_toArray, List.set_cons_zero, List.set_cons_succ]
                  refine held_take 4 19 (.agg #[.string x.id, .int .i64 x.prio, .bool x.crit, .int .i64 x.q0, .int .i64 x.q1, .int .i64 x.q2, .int .i64 x.l0, .int .i64 x.l1, .int .i64 x.l2, .string x.image, .int .i64 x.size]) rfl rfl (by kernel_rfl) (by kernel_rfl) (by kernel_rfl) (fun _ _ _ h => h) (by rfl) (by intro w' hSw; (try dsimp only at hSw); go_simp; (try (with_reducible rfl))) (by assumption) ?_
                  simp only [Act.put, List.setIfInBounds_toArray, List.set_cons_zero, List.set_cons_succ]
                  refine held_call 5 20 rfl rfl (by kernel_rfl) (by rfl) (fun K hK => ?_)
                  go_simp
                  go_at_call 49; with_reducible refine (refVmayV HM.out _).mono ?_; rintro e v1 ⟨rfl, hb⟩
                  have HP := Lib.hid (HP.out.drew.trans (hb.mono HP.out.drew.size))
                  have HQ := Lib.hid (HQd.out.below hb)
                  have HRi := Lib.hid (HRd.out.below hb)
                  have HRA := Lib.hid (HRAd.out.below hb)
                  clear hb
                  obtain ⟨q0, q1, q2, q3, q4, q5, q6, q7, q8, q9, q10⟩ := HQ.out.pb.pd
                  obtain ⟨x0, x1, x2, x3, x4, x5, x6, x7, x8, x9, x10⟩ := HRi.out.pdAt (Below.refl _ _) HXI.out
                  refine hK _ _ (⟨q0, q1, q2, q3, q4, q5, q6, q7, q8, q9, q10, x0, x1, x2, x3, x4, x5, x6, x7, x8, x9, x10⟩) ?_
                  have hHeld := (show v1.cell? ⟨w.heap.size, 0, none⟩ = some (.string p.id) ∧ v1.cell? ⟨w.heap.size, 1, none⟩ = some (.int .i64 p.prio) ∧ v1.cell? ⟨w.heap.size, 2, none⟩ = some (.bool p.crit) ∧ v1.cell? ⟨w.heap.size, 3, none⟩ = some (.int .i64 p.q0) ∧ v1.cell? ⟨w.heap.size, 4, none⟩ = some (.int .i64 p.q1) ∧ v1.cell? ⟨w.heap.size, 5, none⟩ = some (.int .i64 p.q2) ∧ v1.cell? ⟨w.heap.size, 6, none⟩ = some (.int .i64 p.l0) ∧ v1.cell? ⟨w.heap.size, 7, none⟩ = some (.int .i64 p.l1) ∧ v1.cell? ⟨w.heap.size, 8, none⟩ = some (.int .i64 p.l2) ∧ v1.cell? ⟨w.heap.size, 9, none⟩ = some (.string p.image) ∧ v1.cell? ⟨w.heap.size, 10, none⟩ = some (.int .i64 p.size) ∧ v1.cell? ⟨b, off + i * 11, none⟩ = some (.string x.id) ∧ v1.cell? ⟨b, off + i * 11 + 1, none⟩ = some (.int .i64 x.prio) ∧ v1.cell? ⟨b, off + i * 11 + 2, none⟩ = some (.bool x.crit) ∧ v1.cell? ⟨b, off + i * 11 + 3, none⟩ = some (.int .i64 x.q0) ∧ v1.cell? ⟨b, off + i * 11 + 4, none⟩ = some (.int .i64 x.q1) ∧ v1.cell? ⟨b, off + i * 11 + 5, none⟩ = some (.int .i64 x.q2) ∧ v1.cell? ⟨b, off + i * 11 + 6, none⟩ = some (.int .i64 x.l0) ∧ v1.cell? ⟨b, off + i * 11 + 7, none⟩ = some (.int .i64 x.l1) ∧ v1.cell? ⟨b, off + i * 11 + 8, none⟩ = some (.int .i64 x.l2) ∧ v1.cell? ⟨b, off + i * 11 + 9, none⟩ = some (.string x.image) ∧ v1.cell? ⟨b, off + i * 11 + 10, none⟩ = some (.int .i64 x.size) from ⟨q0, q1, q2, q3, q4, q5, q6, q7, q8, q9, q10, x0, x1, x2, x3, x4, x5, x6, x7, x8, x9, x10⟩)
                  clear hK K q0 q1 q2 q3 q4 q5 q6 q7 q8 q9 q10 x0 x1 x2 x3 x4 x5 x6 x7 x8 x9 x10
                  simp only [Act.put, List.setIfInBounds_toArray, List.set_cons_zero, List.set_cons_succ]
                  refine held_take 6 21 (.bool false) rfl rfl (by kernel_rfl) (by kernel_rfl) (by kernel_rfl) (fun _ _ _ h => h) (by rfl) (by intro w' hSw; (try dsimp only at hSw); go_simp; (try (with_reducible rfl))) (by assumption) ?_
                  simp only [Act.put, List.setIfInBounds_toArray, List.set_cons_zero, List.set_cons_succ]
                  refine held_take 7 22 (.bool false) rfl rfl (by kernel_rfl) (by kernel_rfl) (by kernel_rfl) (fun _ _ _ h => h) (by rfl) (by intro w' hSw; (try dsimp only at hSw); go_simp; (try (with_reducible rfl))) (by assumption) ?_
                  simp only [Act.put, List.setIfInBounds_toArray, List.set_cons_zero, List.set_cons_succ]
                  refine held_take 8 23 (.slice B asked.length d) rfl rfl (by kernel_rfl) (by kernel_rfl) (by kernel_rfl) (fun _ _ _ h => h) (by rfl) (by intro w' hSw; (try dsimp only at hSw); go_simp; (try (with_reducible rfl))) (by assumption) ?_
                  simp only [Act.put, List.setIfInBounds_toArray, List.set_cons_zero, List.set_cons_succ]
                  refine held_take 9 24 (.slice (some ⟨b, off, none⟩) l.length c) rfl rfl (by kernel_rfl) (by kernel_rfl) (by kernel_rfl) (fun _ _ _ h => h) (by rfl) (by intro w' hSw; (try dsimp only at hSw); go_simp; (try (with_reducible rfl))) (by assumption) ?_
                  simp only [Act.put, List.setIfInBounds_toArray, List.set_cons_zero, List.set_cons_succ]
                  refine held_take 10 25 (.int .i64 i) rfl rfl (by kernel_rfl) (by kernel_rfl) (by kernel_rfl) (fun _ _ _ h => h) (by rfl) (by intro w' hSw; (try dsimp only at hSw); go_simp; (try (with_reducible rfl))) (by assumption) ?_
                  simp only [Act.put, List.setIfInBounds_toArray, List.set_cons_zero, List.set_cons_succ]
                  refine held_take 11 26 (.pointer (some ⟨b, off + i * 11, none⟩)) rfl rfl (by kernel_rfl) (by kernel_rfl) (by kernel_rfl) (fun _ _ _ h => h) (by rfl) (by intro w' hSw; (try dsimp only at hSw); go_simp; (try (with_reducible rfl))) (by assumption) ?_
                  simp only [Act.put, List.setIfInBounds_toArray, List.set_cons_zero, List.set_cons_succ]
                  refine held_take 12 27 (.pointer (some ⟨b, off + i * 11, none⟩)) rfl rfl (by kernel_rfl) (by kernel_rfl) (by kernel_rfl) (fun _ _ _ h => h) (by rfl) (by intro w' hSw; (try dsimp only at hSw); go_simp; (try (with_reducible rfl))) (by assumption) ?_
                  simp only [Act.put, List.setIfInBounds_toArray, List.set_cons_zero, List.set_cons_succ]
                  refine held_take 13 28 (.string x.id) rfl rfl (by kernel_rfl) (by kernel_rfl) (by kernel_rfl) (fun _ _ _ h => h) (by rfl) (by intro w' hSw; (try dsimp only at hSw); go_simp; (try (with_reducible rfl))) (by assumption) ?_
                  simp only [Act.put, List.setIfInBounds_toArray, List.set_cons_zero, List.set_cons_succ]
                  refine held_call 14 29 rfl rfl (by kernel_rfl) (by rfl) (fun K hK => ?_)
                  go_simp
                  go_at_call 50; with_reducible refine (hasV HH.out B d _ HRA.out (by omega)).mono ?_; rintro e v2 ⟨rfl, rfl⟩
                  obtain ⟨q0, q1, q2, q3, q4, q5, q6, q7, q8, q9, q10⟩ := HQ.out.pb.pd
                  obtain ⟨x0, x1, x2, x3, x4, x5, x6, x7, x8, x9, x10⟩ := HRi.out.pdAt (Below.refl _ _) HXI.out
                  refine hK _ _ (⟨q0, q1, q2, q3, q4, q5, q6, q7, q8, q9, q10, x0, x1, x2, x3, x4, x5, x6, x7, x8, x9, x10⟩) ?_
                  have hHeld := (show v1.cell? ⟨w.heap.size, 0, none⟩ = some (.string p.id) ∧ v1.cell? ⟨w.heap.size, 1, none⟩ = some (.int .i64 p.prio) ∧ v1.cell? ⟨w.heap.size, 2, none⟩ = some (.bool p.crit) ∧ v1.cell? ⟨w.heap.size, 3, none⟩ = some (.int .i64 p.q0) ∧ v1.cell? ⟨w.heap.size, 4, none⟩ = some (.int .i64 p.q1) ∧ v1.cell? ⟨w.heap.size, 5, none⟩ = some (.int .i64 p.q2) ∧ v1.cell? ⟨w.heap.size, 6, none⟩ = some (.int .i64 p.l0) ∧ v1.cell? ⟨w.heap.size, 7, none⟩ = some (.int .i64 p.l1) ∧ v1.cell? ⟨w.heap.size, 8, none⟩ = some (.int .i64 p.l2) ∧ v1.cell? ⟨w.heap.size, 9, none⟩ = some (.string p.image) ∧ v1.cell? ⟨w.heap.size, 10, none⟩ = some (.int .i64 p.size) ∧ v1.cell? ⟨b, off + i * 11, none⟩ = some (.string x.id) ∧ v1.cell? ⟨b, off + i * 11 + 1, none⟩ = some (.int .i64 x.prio) ∧ v1.cell? ⟨b, off + i * 11 + 2, none⟩ = some (.bool x.crit) ∧ v1.cell? ⟨b, off + i * 11 + 3, none⟩ = some (.int .i64 x.q0) ∧ v1.cell? ⟨b, off + i * 11 + 4, none⟩ = some (.int .i64 x.q1) ∧ v1.cell? ⟨b, off + i * 11 + 5, none⟩ = some (.int .i64 x.q2) ∧ v1.cell? ⟨b, off + i * 11 + 6, none⟩ = some (.int .i64 x.l0) ∧ v1.cell? ⟨b, off + i * 11 + 7, none⟩ = some (.int .i64 x.l1) ∧ v1.cell? ⟨b, off + i * 11 + 8, none⟩ = some (.int .i64 x.l2) ∧ v1.cell? ⟨b, off + i * 11 + 9, none⟩ = some (.string x.image) ∧ v1.cell? ⟨b, off + i * 11 + 10, none⟩ = some (.int .i64 x.size) from ⟨q0, q1, q2, q3, q4, q5, q6, q7, q8, q9, q10, x0, x1, x2, x3, x4, x5, x6, x7, x8, x9, x10⟩)
                  clear hK K q0 q1 q2 q3 q4 q5 q6 q7 q8 q9 q10 x0 x1 x2 x3 x4 x5 x6 x7 x8 x9 x10
                  simp only [Act.put, List.setIfInBounds_toArray, List.set_cons_zero, List.set_cons_succ]
                  refine held_take 15 30 (.bool false) rfl rfl (by kernel_rfl) (by kernel_rfl) (by kernel_rfl) (fun _ _ _ h => h) (by rfl) (by intro w' hSw; (try dsimp only at hSw); go_simp; (try (with_reducible rfl))) (by assumption) ?_
                  simp only [Act.put, List.setIfInBounds_toArray, List.set_cons_zero, List.set_cons_succ]
                  refine wpAnyH_done (by kernel_rfl) ?_ _
                  clear hHeld
                  go_wp2_with fail
                  have HP := Lib.hid HP.out.drew
                  have HRd := Lib.hid HRi.out.drew
                  obtain ⟨x0, x1, x2, x3, x4, x5, x6, x7, x8, x9, x10⟩ := HRd.out.pdAt (Below.refl _ _) HXI.out
                  obtain ⟨y0, y1, y2, y3, y4, y5, y6, y7, y8, y9, y10⟩ := HRd.out.pdAt (Below.refl _ _) HYJ.out
                  refine wp_region_held_drew (S := (fun w' => w'.cell? ⟨b, off + i * 11, none⟩ = some (.string x.id) ∧ w'.cell? ⟨b, off + i * 11 + 1, none⟩ = some (.int .i64 x.prio) ∧ w'.cell? ⟨b, off + i * 11 + 2, none⟩ = some (.bool x.crit) ∧ w'.cell? ⟨b, off + i * 11 + 3, none⟩ = some (.int .i64 x.q0) ∧ w'.cell? ⟨b, off + i * 11 + 4, none⟩ = some (.int .i64 x.q1) ∧ w'.cell? ⟨b, off + i * 11 + 5, none⟩ = some (.int .i64 x.q2) ∧ w'.cell? ⟨b, off + i * 11 + 6, none⟩ = some (.int .i64 x.l0) ∧ w'.cell? ⟨b, off + i * 11 + 7, none⟩ = some (.int .i64 x.l1) ∧ w'.cell? ⟨b, off + i * 11 + 8, none⟩ = some (.int .i64 x.l2) ∧ w'.cell? ⟨b, off + i * 11 + 9, none⟩ = some (.string x.image) ∧ w'.cell? ⟨b, off + i * 11 + 10, none⟩ = some (.int .i64 x.size) ∧ w'.cell? ⟨b, off + j * 11, none⟩ = some (.string y.id) ∧ w'.cell? ⟨b, off + j * 11 + 1, none⟩ = some (.int .i64 y.prio) ∧ w'.cell? ⟨b, off + j * 11 + 2, none⟩ = some (.bool y.crit) ∧ w'.cell? ⟨b, off + j * 11 + 3, none⟩ = some (.int .i64 y.q0) ∧ w'.cell? ⟨b, off + j * 11 + 4, none⟩ = some (.int .i64 y.q1) ∧ w'.cell? ⟨b, off + j * 11 + 5, none⟩ = some (.int .i64 y.q2) ∧ w'.cell? ⟨b, off + j * 11 + 6, none⟩ = some (.int .i64 y.l0) ∧ w'.cell? ⟨b, off + j * 11 + 7, none⟩ = some (.int .i64 y.l1) ∧ w'.cell? ⟨b, off + j * 11 + 8, none⟩ = some (.int .i64 y.l2) ∧ w'.cell? ⟨b, off + j * 11 + 9, none⟩ = some (.string y.image) ∧ w'.cell? ⟨b, off + j * 11 + 10, none⟩ = some (.int .i64 y.size))) (by kernel_rfl) (⟨x0, x1, x2, x3, x4, x5, x6, x7, x8, x9, x10, y0, y1, y2, y3, y4, y5, y6, y7, y8, y9, y10⟩) (fun hHeld => ?_)
                  clear x0 x1 x2 x3 x4 x5 x6 x7 x8 x9 x10 y0 y1 y2 y3 y4 y5 y6 y7 y8 y9 y10
                  refine held_take 0 31 (.int .i64 j) rfl rfl (by kernel_rfl) (by kernel_rfl) (by kernel_rfl) (fun _ _ _ h => h) (by rfl) (by intro w' hSw; (try dsimp only at hSw); go_simp; (try (with_reducible rfl))) (by assumption) ?_
                  simp only [Act.put, List.setIfInBounds_toArray, List.set_cons_zero, List.set_cons_succ]
                  refine held_take 1 32 (.bool false) rfl rfl (by kernel_rfl) (by kernel_rfl) (by kernel_rfl) (fun _ _ _ h => h) (by rfl) (by intro w' hSw; (try dsimp only at hSw); go_simp; (try (with_reducible rfl))) (by assumption) ?_
                  simp only [Act.put, List.setIfInBounds_toArray, List.set_cons_zero, List.set_cons_succ]
                  refine held_take 2 33 (.bool false) rfl rfl (by kernel_rfl) (by kernel_rfl) (by kernel_rfl) (fun _ _ _ h => h) (by rfl) (by intro w' hSw; (try dsimp only at hSw); go_simp; (try (with_reducible rfl))) (by assumption) ?_
                  simp only [Act.put, List.setIfInBounds_toArray, List.set_cons_zero, List.set_cons_succ]
                  refine held_take 3 34 (.slice (some ⟨b, off, none⟩) l.length c) rfl rfl (by kernel_rfl) (by kernel_rfl) (by kernel_rfl) (fun _ _ _ h => h) (by rfl) (by intro w' hSw; (try dsimp only at hSw); go_simp; (try (with_reducible rfl))) (by assumption) ?_
                  simp only [Act.put, List.setIfInBounds_toArray, List.set_cons_zero, List.set_cons_succ]
                  refine held_take 4 35 (.int .i64 i) rfl rfl (by kernel_rfl) (by kernel_rfl) (by kernel_rfl) (fun _ _ _ h => h) (by rfl) (by intro w' hSw; (try dsimp only at hSw); go_simp; (try (with_reducible rfl))) (by assumption) ?_
                  simp only [Act.put, List.setIfInBounds_toArray, List.set_cons_zero, List.set_cons_succ]
                  refine held_take 5 36 (.pointer (some ⟨b, off + i * 11, none⟩)) rfl rfl (by kernel_rfl) (by kernel_rfl) (by kernel_rfl) (fun _ _ _ h => h) (by rfl) (by intro w' hSw; (try dsimp only at hSw); go_simp; (try (with_reducible rfl))) (by assumption) ?_
                  simp only [Act.put, List.setIfInBounds_toArray, List.set_cons_zero, List.set_cons_succ]
                  refine held_take 6 37 (.pointer (some ⟨b, off + i * 11 + 1, none⟩)) rfl rfl (by kernel_rfl) (by kernel_rfl) (by kernel_rfl) (fun _ _ _ h => h) (by rfl) (by intro w' hSw; (try dsimp only at hSw); go_simp; (try (with_reducible rfl))) (by assumption) ?_
                  simp only [Act.put, List.setIfInBounds_toArray, List.set_cons_zero, List.set_cons_succ]
                  refine held_take 7 38 (.int .i64 x.prio) rfl rfl (by kernel_rfl) (by kernel_rfl) (by kernel_rfl) (fun _ _ _ h => h) (by rfl) (by intro w' hSw; (try dsimp only at hSw); go_simp; (try (with_reducible rfl))) (by assumption) ?_
                  simp only [Act.put, List.setIfInBounds_toArray, List.set_cons_zero, List.set_cons_succ]
                  refine held_take 8 39 (.slice (some ⟨b, off, none⟩) l.length c) rfl rfl (by kernel_rfl) (by kernel_rfl) (by kernel_rfl) (fun _ _ _ h => h) (by rfl) (by intro w' hSw; (try dsimp only at hSw); go_simp; (try (with_reducible rfl))) (by assumption) ?_
                  simp only [Act.put, List.setIfInBounds_toArray, List.set_cons_zero, List.set_cons_succ]
                  refine held_take 9 40 (.int .i64 j) rfl rfl (by kernel_rfl) (by kernel_rfl) (by kernel_rfl) (fun _ _ _ h => h) (by rfl) (by intro w' hSw; (try dsimp only at hSw); go_simp; (try (with_reducible rfl))) (by assumption) ?_
                  simp only [Act.put, List.setIfInBounds_toArray, List.set_cons_zero, List.set_cons_succ]
                  refine held_take 10 41 (.pointer (some ⟨b, off + j * 11, none⟩)) rfl rfl (by kernel_rfl) (by kernel_rfl) (by kernel_rfl) (fun _ _ _ h => h) (by rfl) (by intro w' hSw; (try dsimp only at hSw); go_simp; (try (with_reducible rfl))) (by assumption) ?_
                  simp only [Act.put, List.setIfInBounds_toArray, List.set_cons_zero, List.set_cons_succ]
                  refine held_take 11 42 (.pointer (some ⟨b, off + j * 11 + 1, none⟩)) rfl rfl (by kernel_rfl) (by kernel_rfl) (by kernel_rfl) (fun _ _ _ h => h) (by rfl) (by intro w' hSw; (try dsimp only at hSw); go_simp; (try (with_reducible rfl))) (by assumption) ?_
                  simp only [Act.put, List.setIfInBounds_toArray, List.set_cons_zero, List.set_cons_succ]
                  refine held_take 12 43 (.int .i64 y.prio) rfl rfl (by kernel_rfl) (by kernel_rfl) (by kernel_rfl) (fun _ _ _ h => h) (by rfl) (by intro w' hSw; (try dsimp only at hSw); go_simp; (try (with_reducible rfl))) (by assumption) ?_
                  simp only [Act.put, List.setIfInBounds_toArray, List.set_cons_zero, List.set_cons_succ]
                  refine held_take 13 44 (.bool false) rfl rfl (by kernel_rfl) (by kernel_rfl) (by kernel_rfl) (fun _ _ _ h => h) (by rfl) (by intro w' hSw; (try dsimp only at hSw); go_simp; (first | done | with_reducible rfl | (have hh := HG.out; first | omega | (simp; omega)))) (by assumption) ?_
                  simp only [Act.put, List.setIfInBounds_toArray, List.set_cons_zero, List.set_cons_succ]
                  refine held_take 14 45 (.bool false) rfl rfl (by kernel_rfl) (by kernel_rfl) (by kernel_rfl) (fun _ _ _ h => h) (by rfl) (by intro w' hSw; (try dsimp only at hSw); go_simp; (try (with_reducible rfl))) (by assumption) ?_
                  simp only [Act.put, List.setIfInBounds_toArray, List.set_cons_zero, List.set_cons_succ]
                  refine held_take 15 46 (.bool false) rfl rfl (by kernel_rfl) (by kernel_rfl) (by kernel_rfl) (fun _ _ _ h => h) (by rfl) (by intro w' hSw; (try dsimp only at hSw); go_simp; (try (with_reducible rfl))) (by assumption) ?_
                  simp only [Act.put, List.setIfInBounds_toArray, List.set_cons_zero, List.set_cons_succ]
                  refine held_take 16 47 (.slice (some ⟨b, off, none⟩) l.length c) rfl rfl (by kernel_rfl) (by kernel_rfl) (by kernel_rfl) (fun _ _ _ h => h) (by rfl) (by intro w' hSw; (try dsimp only at hSw); go_simp; (try (with_reducible rfl))) (by assumption) ?_
                  simp only [Act.put, List.setIfInBounds_toArray, List.set_cons_zero, List.set_cons_succ]
                  refine held_take 17 48 (.int .i64 i) rfl rfl (by kernel_rfl) (by kernel_rfl) (by kernel_rfl) (fun _ _ _ h => h) (by rfl) (by intro w' hSw; (try dsimp only at hSw); go_simp; (try (with_reducible rfl))) (by assumption) ?_
                  simp only [Act.put, List.setIfInBounds_toArray, List.set_cons_zero, List.set_cons_succ]
                  refine held_take 18 49 (.pointer (some ⟨b, off + i * 11, none⟩)) rfl rfl (by kernel_rfl) (by kernel_rfl) (by kernel_rfl) (fun _ _ _ h => h) (by rfl) (by intro w' hSw; (try dsimp only at hSw); go_simp; (try (with_reducible rfl))) (by assumption) ?_
                  simp only [Act.put, List.setIfInBounds_toArray, List.set_cons_zero, List.set_cons_succ]
                  refine held_take 19 50 (.pointer (some ⟨b, off + i * 11 + 1, none⟩)) rfl rfl (by kernel_rfl) (by kernel_rfl) (by kernel_rfl) (fun _ _ _ h => h) (by rfl) (by intro w' hSw; (try dsimp only at hSw); go_simp; (try (with_reducible rfl))) (by assumption) ?_
                  simp only [Act.put, List.setIfInBounds_toArray, List.set_cons_zero, List.set_cons_succ]
                  refine held_take 20 51 (.int .i64 x.prio) rfl rfl (by kernel_rfl) (by kernel_rfl) (by kernel_rfl) (fun _ _ _ h => h) (by rfl) (by intro w' hSw; (try dsimp only at hSw); go_simp; (try (with_reducible rfl))) (by assumption) ?_
                  simp only [Act.put, List.setIfInBounds_toArray, List.set_cons_zero, List.set_cons_succ]
                  refine held_take 21 52 (.slice (some ⟨b, off, none⟩) l.length c) rfl rfl (by kernel_rfl) (by kernel_rfl) (by kernel_rfl) (fun _ _ _ h => h) (by rfl) (by intro w' hSw; (try dsimp only at hSw); go_simp; (try (with_reducible rfl))) (by assumption) ?_
                  simp only [Act.put, List.setIfInBounds_toArray, List.set_cons_zero, List.set_cons_succ]
                  refine held_take 22 53 (.int .i64 j) rfl rfl (by kernel_rfl) (by kernel_rfl) (by kernel_rfl) (fun _ _ _ h => h) (by rfl) (by intro w' hSw; (try dsimp only at hSw); go_simp; (try (with_reducible rfl))) (by assumption) ?_
                  simp only [Act.put, List.setIfInBounds_toArray, List.set_cons_zero, List.set_cons_succ]
                  refine held_take 23 54 (.pointer (some ⟨b, off + j * 11, none⟩)) rfl rfl (by kernel_rfl) (by kernel_rfl) (by kernel_rfl) (fun _ _ _ h => h) (by rfl) (by intro w' hSw; (try dsimp only at hSw); go_simp; (try (with_reducible rfl))) (by assumption) ?_
                  simp only [Act.put, List.setIfInBounds_toArray, List.set_cons_zero, List.set_cons_succ]
                  refine held_take 24 55 (.pointer (some ⟨b, off + j * 11 + 1, none⟩)) rfl rfl (by kernel_rfl) (by kernel_rfl) (by kernel_rfl) (fun _ _ _ h => h) (by rfl) (by intro w' hSw; (try dsimp only at hSw); go_simp; (try (with_reducible rfl))) (by assumption) ?_
                  simp only [Act.put, List.setIfInBounds_toArray, List.set_cons_zero, List.set_cons_succ]
                  refine held_take 25 56 (.int .i64 y.prio) rfl rfl (by kernel_rfl) (by kernel_rfl) (by kernel_rfl) (fun _ _ _ h => h) (by rfl) (by intro w' hSw; (try dsimp only at hSw); go_simp; (try (with_reducible rfl))) (by assumption) ?_
                  simp only [Act.put, List.setIfInBounds_toArray, List.set_cons_zero, List.set_cons_succ]
                  refine held_take 26 57 (.bool true) rfl rfl (by kernel_rfl) (by kernel_rfl) (by kernel_rfl) (fun _ _ _ h => h) (by rfl) (by intro w' hSw; (try dsimp only at hSw); go_simp; (first | done | with_reducible rfl | (have hh := HG.out; first | omega | (simp; omega)))) (by assumption) ?_
                  simp only [Act.put, List.setIfInBounds_toArray, List.set_cons_zero, List.set_cons_succ]
                  refine held_take 27 58 (.bool true) rfl rfl (by kernel_rfl) (by kernel_rfl) (by kernel_rfl) (fun _ _ _ h => h) (by rfl) (by intro w' hSw; (try dsimp only at hSw); go_simp; (try (with_reducible rfl))) (by assumption) ?_
                  simp only [Act.put, List.setIfInBounds_toArray, List.set_cons_zero, List.set_cons_succ]
                  refine held_take 28 59 (.slice (some ⟨b, off, none⟩) l.length c) rfl rfl (by kernel_rfl) (by kernel_rfl) (by kernel_rfl) (fun _ _ _ h => h) (by rfl) (by intro w' hSw; (try dsimp only at hSw); go_simp; (try (with_reducible rfl))) (by assumption) ?_
                  simp only [Act.put, List.setIfInBounds_toArray, List.set_cons_zero, List.set_cons_succ]
                  refine held_take 29 60 (.int .i64 i) rfl rfl (by kernel_rfl) (by kernel_rfl) (by kernel_rfl) (fun _ _ _ h => h) (by rfl) (by intro w' hSw; (try dsimp only at hSw); go_simp; (try (with_reducible rfl))) (by assumption) ?_
                  simp only [Act.put, List.setIfInBounds_toArray, List.set_cons_zero, List.set_cons_succ]
                  refine held_take 30 61 (.pointer (some ⟨b, off + i * 11, none⟩)) rfl rfl (by kernel_rfl) (by kernel_rfl) (by kernel_rfl) (fun _ _ _ h => h) (by rfl) (by intro w' hSw; (try dsimp only at hSw); go_simp; (try (with_reducible rfl))) (by assumption) ?_
                  simp only [Act.put, List.setIfInBounds_toArray, List.set_cons_zero, List.set_cons_succ]
                  refine held_take 31 62 (.pointer (some ⟨b, off + i * 11, none⟩)) rfl rfl (by kernel_rfl) (by kernel_rfl) (by kernel_rfl) (fun _ _ _ h => h) (by rfl) (by intro w' hSw; (try dsimp only at hSw); go_simp; (try (with_reducible rfl))) (by assumption) ?_
                  simp only [Act.put, List.setIfInBounds_toArray, List.set_cons_zero, List.set_cons_succ]
                  refine held_take 32 63 (.string x.id) rfl rfl (by kernel_rfl) (by kernel_rfl) (by kernel_rfl) (fun _ _ _ h => h) (by rfl) (by intro w' hSw; (try dsimp only at hSw); go_simp; (try (with_reducible rfl))) (by assumption) ?_
                  simp only [Act.put, List.setIfInBounds_toArray, List.set_cons_zero, List.set_cons_succ]
                  refine held_take 33 64 (.slice (some ⟨b, off, none⟩) l.length c) rfl rfl (by kernel_rfl) (by kernel_rfl) (by kernel_rfl) (fun _ _ _ h => h) (by rfl) (by intro w' hSw; (try dsimp only at hSw); go_simp; (try (with_reducible rfl))) (by assumption) ?_
                  simp only [Act.put, List.setIfInBounds_toArray, List.set_cons_zero, List.set_cons_succ]
                  refine held_take 34 65 (.int .i64 j) rfl rfl (by kernel_rfl) (by kernel_rfl) (by kernel_rfl) (fun _ _ _ h => h) (by rfl) (by intro w' hSw; (try dsimp only at hSw); go_simp; (try (with_reducible rfl))) (by assumption) ?_
                  simp only [Act.put, List.setIfInBounds_toArray, List.set_cons_zero, List.set_cons_succ]
                  refine held_take 35 66 (.pointer (some ⟨b, off + j * 11, none⟩)) rfl rfl (by kernel_rfl) (by kernel_rfl) (by kernel_rfl) (fun _ _ _ h => h) (by rfl) (by intro w' hSw; (try dsimp only at hSw); go_simp; (try (with_reducible rfl))) (by assumption) ?_
                  simp only [Act.put, List.setIfInBounds_toArray, List.set_cons_zero, List.set_cons_succ]
                  refine held_take 36 67 (.pointer (some ⟨b, off + j * 11, none⟩)) rfl rfl (by kernel_rfl) (by kernel_rfl) (by kernel_rfl) (fun _ _ _ h => h) (by rfl) (by intro w' hSw; (try dsimp only at hSw); go_simp; (try (with_reducible rfl))) (by assumption) ?_
                  simp only [Act.put, List.setIfInBounds_toArray, List.set_cons_zero, List.set_cons_succ]
                  refine held_take 37 68 (.string y.id) rfl rfl (by kernel_rfl) (by kernel_rfl) (by kernel_rfl) (fun _ _ _ h => h) (by rfl) (by intro w' hSw; (try dsimp only at hSw); go_simp; (try (with_reducible rfl))) (by assumption) ?_
                  simp only [Act.put, List.setIfInBounds_toArray, List.set_cons_zero, List.set_cons_succ]
                  refine held_take 38 69 (.bool false) rfl rfl (by kernel_rfl) (by kernel_rfl) (by kernel_rfl) (fun _ _ _ h => h) (by rfl) (by intro w' hSw; (try dsimp only at hSw); go_simp; (first | done | with_reducible rfl | exact HBL.out)) (by assumption) ?_
                  simp only [Act.put, List.setIfInBounds_toArray, List.set_cons_zero, List.set_cons_succ]
                  refine held_take 39 70 (.bool false) rfl rfl (by kernel_rfl) (by kernel_rfl) (by kernel_rfl) (fun _ _ _ h => h) (by rfl) (by intro w' hSw; (try dsimp only at hSw); go_simp; (try (with_reducible rfl))) (by assumption) ?_
                  simp only [Act.put, List.setIfInBounds_toArray, List.set_cons_zero, List.set_cons_succ]
                  refine held_take 40 71 (.bool false) rfl rfl (by kernel_rfl) (by kernel_rfl) (by kernel_rfl) (fun _ _ _ h => h) (by rfl) (by intro w' hSw; (try dsimp only at hSw); go_simp; (try (with_reducible rfl))) (by assumption) ?_
                  simp only [Act.put, List.setIfInBounds_toArray, List.set_cons_zero, List.set_cons_succ]
                  refine wpAnyH_done (by kernel_rfl) ?_ _
                  clear hHeld
                  go_wp2_with fail
                  go_roundw
                  case rel => exact ⟨i + 1, (j : Int), by omega, rfl, by go_num, HN.out, HP.out⟩
                  case measure => simp [intOf]; omega
                · have HG := Lib.hid h2
                  have HBL := Lib.hid h3
                  have HN := Lib.hid (HBET.out ((vlt_iff _ _).2 (.inr ⟨h2, h3⟩)))
                  clear h1 h2 h3 HBET HWOR
                  go_wp2_with fail
                  have HQd := Lib.hid HQ.out.drew
                  have HRd := Lib.hid HRi.out.drew
                  have HRAd := Lib.hid HRA.out.drew
                  obtain ⟨q0, q1, q2, q3, q4, q5, q6, q7, q8, q9, q10⟩ := HQd.out.pb.pd
                  obtain ⟨x0, x1, x2, x3, x4, x5, x6, x7, x8, x9, x10⟩ := HRd.out.pdAt (Below.refl _ _) HXI.out
                  refine wp_region_held_drew (S := (fun w' => w'.cell? ⟨w.heap.size, 0, none⟩ = some (.string p.id) ∧ w'.cell? ⟨w.heap.size, 1, none⟩ = some (.int .i64 p.prio) ∧ w'.cell? ⟨w.heap.size, 2, none⟩ = some (.bool p.crit) ∧ w'.cell? ⟨w.heap.size, 3, none⟩ = some (.int .i64 p.q0) ∧ w'.cell? ⟨w.heap.size, 4, none⟩ = some (.int .i64 p.q1) ∧ w'.cell? ⟨w.heap.size, 5, none⟩ = some (.int .i64 p.q2) ∧ w'.cell? ⟨w.heap.size, 6, none⟩ = some (.int .i64 p.l0) ∧ w'.cell? ⟨w.heap.size, 7, none⟩ = some (.int .i64 p.l1) ∧ w'.cell? ⟨w.heap.size, 8, none⟩ = some (.int .i64 p.l2) ∧ w'.cell? ⟨w.heap.size, 9, none⟩ = some (.string p.image) ∧ w'.cell? ⟨w.heap.size, 10, none⟩ = some (.int .i64 p.size) ∧ w'.cell? ⟨b, off + i * 11, none⟩ = some (.string x.id) ∧ w'.cell? ⟨b, off + i * 11 + 1, none⟩ = some (.int .i64 x.prio) ∧ w'.cell? ⟨b, off + i * 11 + 2, none⟩ = some (.bool x.crit) ∧ w'.cell? ⟨b, off + i * 11 + 3, none⟩ = some (.int .i64 x.q0) ∧ w'.cell? ⟨b, off + i * 11 + 4, none⟩ = some (.int .i64 x.q1) ∧ w'.cell? ⟨b, off + i * 11 + 5, none⟩ = some (.int .i64 x.q2) ∧ w'.cell? ⟨b, off + i * 11 + 6, none⟩ = some (.int .i64 x.l0) ∧ w'.cell? ⟨b, off + i * 11 + 7, none⟩ = some (.int .i64 x.l1) ∧ w'.cell? ⟨b, off + i * 11 + 8, none⟩ = some (.int .i64 x.l2) ∧ w'.cell? ⟨b, off + i * 11 + 9, none⟩ = some (.string x.image) ∧ w'.cell? ⟨b, off + i * 11 + 10, none⟩ = some (.int .i64 x.size))) (by kernel_rfl) (⟨q0, q1, q2, q3, q4, q5, q6, q7, q8, q9, q10, x0, x1, x2, x3, x4, x5, x6, x7, x8, x9, x10⟩) (fun hHeld => ?_)
                  clear q0 q1 q2 q3 q4 q5 q6 q7 q8 q9 q10 x0 x1 x2 x3 x4 x5 x6 x7 x8 x9 x10
                  refine held_take 0 15 (.agg #[.string p.id, .int .i64 p.prio, .bool p.crit, .int .i64 p.q0, .int .i64 p.q1, .int .i64 p.q2, .int .i64 p.l0, .int .i64 p.l1, .int .i64 p.l2, .string p.image, .int .i64 p.size]) rfl rfl (by kernel_rfl) (by kernel_rfl) (by kernel_rfl) (fun _ _ _ h => h) (by rfl) (by intro w' hSw; (try dsimp only at hSw); go_simp; (try (with_reducible rfl))) (by assumption) ?_
                  simp only [Act.put, List.setIfInBounds_toArray, List.set_cons_zero, List.set_cons_succ]
                  refine held_take 1 16 (.slice (some ⟨b, off, none⟩) l.length c) rfl rfl (by kernel_rfl) (by kernel_rfl) (by kernel_rfl) (fun _ _ _ h => h) (by rfl) (by intro w' hSw; (try dsimp only at hSw); go_simp; (try (with_reducible rfl))) (by assumption) ?_
                  simp only [Act.put, List.setIfInBounds_toArray, List.set_cons_zero, List.set_cons_succ]
                  refine held_take 2 17 (.int .i64 i) rfl rfl (by kernel_rfl) (by kernel_rfl) (by kernel_rfl) (fun _ _ _ h => h) (by rfl) (by intro w' hSw; (try dsimp only at hSw); go_simp; (try (with_reducible rfl))) (by assumption) ?_
                  simp only [Act.put, List.setIfInBounds_toArray, List.set_cons_zero, List.set_cons_succ]
                  refine held_take 3 18 (.pointer (some ⟨b, off + i * 11, none⟩)) rfl rfl (by kernel_rfl) (by kernel_rfl) (by kernel_rfl) (fun _ _ _ h => h) (by rfl) (by intro w' hSw; (try dsimp only at hSw); go_simp; (try (with_reducible rfl))) (by assumption) ?_
                  simp only [Act.put, List.setIfInBounds_toArray, List.set_cons_zero, List.set_cons_succ]
                  refine held_take 4 19 (.agg #[.string x.id, .int .i64 x.prio, .bool x.crit, .int .i64 x.q0, .int .i64 x.q1, .int .i64 x.q2, .int .i64 x.l0, .int .i64 x.l1, .int .i64 x.l2, .string x.image, .int .i64 x.size]) rfl rfl (by kernel_rfl) (by kernel_rfl) (by kernel_rfl) (fun _ _ _ h => h) (by rfl) (by intro w' hSw; (try dsimp only at hSw); go_simp; (try (with_reducible rfl))) (by assumption) ?_
                  simp only [Act.put, List.setIfInBounds_toArray, List.set_cons_zero, List.set_cons_succ]
                  refine held_call 5 20 rfl rfl (by kernel_rfl) (by rfl) (fun K hK => ?_)
                  go_simp
                  go_at_call 49; with_reducible refine (refVmayV HM.out _).mono ?_; rintro e v1 ⟨rfl, hb⟩
                  have HP := Lib.hid (HP.out.drew.trans (hb.mono HP.out.drew.size))
                  have HQ := Lib.hid (HQd.out.below hb)
                  have HRi := Lib.hid (HRd.out.below hb)
                  have HRA := Lib.hid (HRAd.out.below hb)
                  clear hb
                  obtain ⟨q0, q1, q2, q3, q4, q5, q6, q7, q8, q9, q10⟩ := HQ.out.pb.pd
                  obtain ⟨x0, x1, x2, x3, x4, x5, x6, x7, x8, x9, x10⟩ := HRi.out.pdAt (Below.refl _ _) HXI.out
                  refine hK _ _ (⟨q0, q1, q2, q3, q4, q5, q6, q7, q8, q9, q10, x0, x1, x2, x3, x4, x5, x6, x7, x8, x9, x10⟩) ?_
                  have hHeld := (show v1.cell? ⟨w.heap.size, 0, none⟩ = some (.string p.id) ∧ v1.cell? ⟨w.heap.size, 1, none⟩ = some (.int .i64 p.prio) ∧ v1.cell? ⟨w.heap.size, 2, none⟩ = some (.bool p.crit) ∧ v1.cell? ⟨w.heap.size, 3, none⟩ = some (.int .i64 p.q0) ∧ v1.cell? ⟨w.heap.size, 4, none⟩ = some (.int .i64 p.q1) ∧ v1.cell? ⟨w.heap.size, 5, none⟩ = some (.int .i64 p.q2) ∧ v1.cell? ⟨w.heap.size, 6, none⟩ = some (.int .i64 p.l0) ∧ v1.cell? ⟨w.heap.size, 7, none⟩ = some (.int .i64 p.l1) ∧ v1.cell? ⟨w.heap.size, 8, none⟩ = some (.int .i64 p.l2) ∧ v1.cell? ⟨w.heap.size, 9, none⟩ = some (.string p.image) ∧ v1.cell? ⟨w.heap.size, 10, none⟩ = some (.int .i64 p.size) ∧ v1.cell? ⟨b, off + i * 11, none⟩ = some (.string x.id) ∧ v1.cell? ⟨b, off + i * 11 + 1, none⟩ = some (.int .i64 x.prio) ∧ v1.cell? ⟨b, off + i * 11 + 2, none⟩ = some (.bool x.crit) ∧ v1.cell? ⟨b, off + i * 11 + 3, none⟩ = some (.int .i64 x.q0) ∧ v1.cell? ⟨b, off + i * 11 + 4, none⟩ = some (.int .i64 x.q1) ∧ v1.cell? ⟨b, off + i * 11 + 5, none⟩ = some (.int .i64 x.q2) ∧ v1.cell? ⟨b, off + i * 11 + 6, none⟩ = some (.int .i64 x.l0) ∧ v1.cell? ⟨b, off + i * 11 + 7, none⟩ = some (.int .i64 x.l1) ∧ v1.cell? ⟨b, off + i * 11 + 8, none⟩ = some (.int .i64 x.l2) ∧ v1.cell? ⟨b, off + i * 11 + 9, none⟩ = some (.string x.image) ∧ v1.cell? ⟨b, off + i * 11 + 10, none⟩ = some (.int .i64 x.size) from ⟨q0, q1, q2, q3, q4, q5, q6, q7, q8, q9, q10, x0, x1, x2, x3, x4, x5, x6, x7, x8, x9, x10⟩)
                  clear hK K q0 q1 q2 q3 q4 q5 q6 q7 q8 q9 q10 x0 x1 x2 x3 x4 x5 x6 x7 x8 x9 x10
                  simp only [Act.put, List.setIfInBounds_toArray, List.set_cons_zero, List.set_cons_succ]
                  refine held_take 6 21 (.bool false) rfl rfl (by kernel_rfl) (by kernel_rfl) (by kernel_rfl) (fun _ _ _ h => h) (by rfl) (by intro w' hSw; (try dsimp only at hSw); go_simp; (try (with_reducible rfl))) (by assumption) ?_
                  simp only [Act.put, List.setIfInBounds_toArray, List.set_cons_zero, List.set_cons_succ]
                  refine held_take 7 22 (.bool false) rfl rfl (by kernel_rfl) (by kernel_rfl) (by kernel_rfl) (fun _ _ _ h => h) (by rfl) (by intro w' hSw; (try dsimp only at hSw); go_simp; (try (with_reducible rfl))) (by assumption) ?_
                  simp only [Act.put, List.setIfInBounds_toArray, List.set_cons_zero, List.set_cons_succ]
                  refine held_take 8 23 (.slice B asked.length d) rfl rfl (by kernel_rfl) (by kernel_rfl) (by kernel_rfl) (fun _ _ _ h => h) (by rfl) (by intro w' hSw; (try dsimp only at hSw); go_simp; (try (with_reducible rfl))) (by assumption) ?_
                  simp only [Act.put, List.setIfInBounds_toArray, List.set_cons_zero, List.set_cons_succ]
                  refine held_take 9 24 (.slice (some ⟨b, off, none⟩) l.length c) rfl rfl (by kernel_rfl) (by kernel_rfl) (by kernel_rfl) (fun _ _ _ h => h) (by rfl) (by intro w' hSw; (try dsimp only at hSw); go_simp; (try (with_reducible rfl))) (by assumption) ?_
                  simp only [Act.put, List.setIfInBounds_toArray, List.set_cons_zero, List.set_cons_succ]
                  refine held_take 10 25 (.int .i64 i) rfl rfl (by kernel_rfl) (by kernel_rfl) (by kernel_rfl) (fun _ _ _ h => h) (by rfl) (by intro w' hSw; (try dsimp only at hSw); go_simp; (try (with_reducible rfl))) (by assumption) ?_
                  simp only [Act.put, List.setIfInBounds_toArray, List.set_cons_zero, List.set_cons_succ]
                  refine held_take 11 26 (.pointer (some ⟨b, off + i * 11, none⟩)) rfl rfl (by kernel_rfl) (by kernel_rfl) (by kernel_rfl) (fun _ _ _ h => h) (by rfl) (by intro w' hSw; (try dsimp only at hSw); go_simp; (try (with_reducible rfl))) (by assumption) ?_
                  simp only [Act.put, List.setIfInBounds_toArray, List.set_cons_zero, List.set_cons_succ]
                  refine held_take 12 27 (.pointer (some ⟨b, off + i * 11, none⟩)) rfl rfl (by kernel_rfl) (by kernel_rfl) (by kernel_rfl) (fun _ _ _ h => h) (by rfl) (by intro w' hSw; (try dsimp only at hSw); go_simp; (try (with_reducible rfl))) (by assumption) ?_
                  simp only [Act.put, List.setIfInBounds_toArray, List.set_cons_zero, List.set_cons_succ]
                  refine held_take 13 28 (.string x.id) rfl rfl (by kernel_rfl) (by kernel_rfl) (by kernel_rfl) (fun _ _ _ h => h) (by rfl) (by intro w' hSw; (try dsimp only at hSw); go_simp; (try (with_reducible rfl))) (by assumption) ?_
                  simp only [Act.put, List.setIfInBounds_toArray, List.set_cons_zero, List.set_cons_succ]
                  refine held_call 14 29 rfl rfl (by kernel_rfl) (by rfl) (fun K hK => ?_)
                  go_simp
                  go_at_call 50; with_reducible refine (hasV HH.out B d _ HRA.out (by omega)).mono ?_; rintro e v2 ⟨rfl, rfl⟩
                  obtain ⟨q0, q1, q2, q3, q4, q5, q6, q7, q8, q9, q10⟩ := HQ.out.pb.pd
                  obtain ⟨x0, x1, x2, x3, x4, x5, x6, x7, x8, x9, x10⟩ := HRi.out.pdAt (Below.refl _ _) HXI.out
                  refine hK _ _ (⟨q0, q1, q2, q3, q4, q5, q6, q7, q8, q9, q10, x0, x1, x2, x3, x4, x5, x6, x7, x8, x9, x10⟩) ?_
                  have hHeld := (show v1.cell? ⟨w.heap.size, 0, none⟩ = some (.string p.id) ∧ v1.cell? ⟨w.heap.size, 1, none⟩ = some (.int .i64 p.prio) ∧ v1.cell? ⟨w.heap.size, 2, none⟩ = some (.bool p.crit) ∧ v1.cell? ⟨w.heap.size, 3, none⟩ = some (.int .i64 p.q0) ∧ v1.cell? ⟨w.heap.size, 4, none⟩ = some (.int .i64 p.q1) ∧ v1.cell? ⟨w.heap.size, 5, none⟩ = some (.int .i64 p.q2) ∧ v1.cell? ⟨w.heap.size, 6, none⟩ = some (.int .i64 p.l0) ∧ v1.cell? ⟨w.heap.size, 7, none⟩ = some (.int .i64 p.l1) ∧ v1.cell? ⟨w.heap.size, 8, none⟩ = some (.int .i64 p.l2) ∧ v1.cell? ⟨w.heap.size, 9, none⟩ = some (.string p.image) ∧ v1.cell? ⟨w.heap.size, 10, none⟩ = some (.int .i64 p.size) ∧ v1.cell? ⟨b, off + i * 11, none⟩ = some (.string x.id) ∧ v1.cell? ⟨b, off + i * 11 + 1, none⟩ = some (.int .i64 x.prio) ∧ v1.cell? ⟨b, off + i * 11 + 2, none⟩ = some (.bool x.crit) ∧ v1.cell? ⟨b, off + i * 11 + 3, none⟩ = some (.int .i64 x.q0) ∧ v1.cell? ⟨b, off + i * 11 + 4, none⟩ = some (.int .i64 x.q1) ∧ v1.cell? ⟨b, off + i * 11 + 5, none⟩ = some (.int .i64 x.q2) ∧ v1.cell? ⟨b, off + i * 11 + 6, none⟩ = some (.int .i64 x.l0) ∧ v1.cell? ⟨b, off + i * 11 + 7, none⟩ = some (.int .i64 x.l1) ∧ v1.cell? ⟨b, off + i * 11 + 8, none⟩ = some (.int .i64 x.l2) ∧ v1.cell? ⟨b, off + i * 11 + 9, none⟩ = some (.string x.image) ∧ v1.cell? ⟨b, off + i * 11 + 10, none⟩ = some (.int .i64 x.size) from ⟨q0, q1, q2, q3, q4, q5, q6, q7, q8, q9, q10, x0, x1, x2, x3, x4, x5, x6, x7, x8, x9, x10⟩)
                  clear hK K q0 q1 q2 q3 q4 q5 q6 q7 q8 q9 q10 x0 x1 x2 x3 x4 x5 x6 x7 x8 x9 x10
                  simp only [Act.put, List.setIfInBounds_toArray, List.set_cons_zero, List.set_cons_succ]
                  refine held_take 15 30 (.bool false) rfl rfl (by kernel_rfl) (by kernel_rfl) (by kernel_rfl) (fun _ _ _ h => h) (by rfl) (by intro w' hSw; (try dsimp only at hSw); go_simp; (try (with_reducible rfl))) (by assumption) ?_
                  simp only [Act.put, List.setIfInBounds_toArray, List.set_cons_zero, List.set_cons_succ]
                  refine wpAnyH_done (by kernel_rfl) ?_ _
                  clear hHeld
                  go_wp2_with fail
                  have HP := Lib.hid HP.out.drew
                  have HRd := Lib.hid HRi.out.drew
                  obtain ⟨x0, x1, x2, x3, x4, x5, x6, x7, x8, x9, x10⟩ := HRd.out.pdAt (Below.refl _ _) HXI.out
                  obtain ⟨y0, y1, y2, y3, y4, y5, y6, y7, y8, y9, y10⟩ := HRd.out.pdAt (Below.refl _ _) HYJ.out
                  refine wp_region_held_drew (S := (fun w' => w'.cell? ⟨b, off + i * 11, none⟩ = some (.string x.id) ∧ w'.cell? ⟨b, off + i * 11 + 1, none⟩ = some (.int .i64 x.prio) ∧ w'.cell? ⟨b, off + i * 11 + 2, none⟩ = some (.bool x.crit) ∧ w'.cell? ⟨b, off + i * 11 + 3, none⟩ = some (.int .i64 x.q0) ∧ w'.cell? ⟨b, off + i * 11 + 4, none⟩ = some (.int .i64 x.q1) ∧ w'.cell? ⟨b, off + i * 11 + 5, none⟩ = some (.int .i64 x.q2) ∧ w'.cell? ⟨b, off + i * 11 + 6, none⟩ = some (.int .i64 x.l0) ∧ w'.cell? ⟨b, off + i * 11 + 7, none⟩ = some (.int .i64 x.l1) ∧ w'.cell? ⟨b, off + i * 11 + 8, none⟩ = some (.int .i64 x.l2) ∧ w'.cell? ⟨b, off + i * 11 + 9, none⟩ = some (.string x.image) ∧ w'.cell? ⟨b, off + i * 11 + 10, none⟩ = some (.int .i64 x.size) ∧ w'.cell? ⟨b, off + j * 11, none⟩ = some (.string y.id) ∧ w'.cell? ⟨b, off + j * 11 + 1, none⟩ = some (.int .i64 y.prio) ∧ w'.cell? ⟨b, off + j * 11 + 2, none⟩ = some (.bool y.crit) ∧ w'.cell? ⟨b, off + j * 11 + 3, none⟩ = some (.int .i64 y.q0) ∧ w'.cell? ⟨b, off + j * 11 + 4, none⟩ = some (.int .i64 y.q1) ∧ w'.cell? ⟨b, off + j * 11 + 5, none⟩ = some (.int .i64 y.q2) ∧ w'.cell? ⟨b, off + j * 11 + 6, none⟩ = some (.int .i64 y.l0) ∧ w'.cell? ⟨b, off + j * 11 + 7, none⟩ = some (.int .i64 y.l1) ∧ w'.cell? ⟨b, off + j * 11 + 8, none⟩ = some (.int .i64 y.l2) ∧ w'.cell? ⟨b, off + j * 11 + 9, none⟩ = some (.string y.image) ∧ w'.cell? ⟨b, off + j * 11 + 10, none⟩ = some (.int .i64 y.size))) (by kernel_rfl) (⟨x0, x1, x2, x3, x4, x5, x6, x7, x8, x9, x10, y0, y1, y2, y3, y4, y5, y6, y7, y8, y9, y10⟩) (fun hHeld => ?_)
                  clear x0 x1 x2 x3 x4 x5 x6 x7 x8 x9 x10 y0 y1 y2 y3 y4 y5 y6 y7 y8 y9 y10
                  refine held_take 0 31 (.int .i64 j) rfl rfl (by kernel_rfl) (by kernel_rfl) (by kernel_rfl) (fun _ _ _ h => h) (by rfl) (by intro w' hSw; (try dsimp only at hSw); go_simp; (try (with_reducible rfl))) (by assumption) ?_
                  simp only [Act.put, List.setIfInBounds_toArray, List.set_cons_zero, List.set_cons_succ]
                  refine held_take 1 32 (.bool false) rfl rfl (by kernel_rfl) (by kernel_rfl) (by kernel_rfl) (fun _ _ _ h => h) (by rfl) (by intro w' hSw; (try dsimp only at hSw); go_simp; (try (with_reducible rfl))) (by assumption) ?_
                  simp only [Act.put, List.setIfInBounds_toArray, List.set_cons_zero, List.set_cons_succ]
                  refine held_take 2 33 (.bool false) rfl rfl (by kernel_rfl) (by kernel_rfl) (by kernel_rfl) (fun _ _ _ h => h) (by rfl) (by intro w' hSw; (try dsimp only at hSw); go_simp; (try (with_reducible rfl))) (by assumption) ?_
                  simp only [Act.put, List.setIfInBounds_toArray, List.set_cons_zero, List.set_cons_succ]
                  refine held_take 3 34 (.slice (some ⟨b, off, none⟩) l.length c) rfl rfl (by kernel_rfl) (by kernel_rfl) (by kernel_rfl) (fun _ _ _ h => h) (by rfl) (by intro w' hSw; (try dsimp only at hSw); go_simp; (try (with_reducible rfl))) (by assumption) ?_
                  simp only [Act.put, List.setIfInBounds_toArray, List.set_cons_zero, List.set_cons_succ]
                  refine held_take 4 35 (.int .i64 i) rfl rfl (by kernel_rfl) (by kernel_rfl) (by kernel_rfl) (fun _ _ _ h => h) (by rfl) (by intro w' hSw; (try dsimp only at hSw); go_simp; (try (with_reducible rfl))) (by assumption) ?_
                  simp only [Act.put, List.setIfInBounds_toArray, List.set_cons_zero, List.set_cons_succ]
                  refine held_take 5 36 (.pointer (some ⟨b, off + i * 11, none⟩)) rfl rfl (by kernel_rfl) (by kernel_rfl) (by kernel_rfl) (fun _ _ _ h => h) (by rfl) (by intro w' hSw; (try dsimp only at hSw); go_simp; (try (with_reducible rfl))) (by assumption) ?_
                  simp only [Act.put, List.setIfInBounds_toArray, List.set_cons_zero, List.set_cons_succ]
                  refine held_take 6 37 (.pointer (some ⟨b, off + i * 11 + 1, none⟩)) rfl rfl (by kernel_rfl) (by kernel_rfl) (by kernel_rfl) (fun _ _ _ h => h) (by rfl) (by intro w' hSw; (try dsimp only at hSw); go_simp; (try (with_reducible rfl))) (by assumption) ?_
                  simp only [Act.put, List.setIfInBounds_toArray, List.set_cons_zero, List.set_cons_succ]
                  refine held_take 7 38 (.int .i64 x.prio) rfl rfl (by kernel_rfl) (by kernel_rfl) (by kernel_rfl) (fun _ _ _ h => h) (by rfl) (by intro w' hSw; (try dsimp only at hSw); go_simp; (try (with_reducible rfl))) (by assumption) ?_
                  simp only [Act.put, List.setIfInBounds_toArray, List.set_cons_zero, List.set_cons_succ]
                  refine held_take 8 39 (.slice (some ⟨b, off, none⟩) l.length c) rfl rfl (by kernel_rfl) (by kernel_rfl) (by kernel_rfl) (fun _ _ _ h => h) (by rfl) (by intro w' hSw; (try dsimp only at hSw); go_simp; (try (with_reducible rfl))) (by assumption) ?_
                  simp only [Act.put, List.setIfInBounds_toArray, List.set_cons_zero, List.set_cons_succ]
                  refine held_take 9 40 (.int .i64 j) rfl rfl (by kernel_rfl) (by kernel_rfl) (by kernel_rfl) (fun _ _ _ h => h) (by rfl) (by intro w' hSw; (try dsimp only at hSw); go_simp; (try (with_reducible rfl))) (by assumption) ?_
                  simp only [Act.put, List.setIfInBounds_toArray, List.set_cons_zero, List.set_cons_succ]
                  refine held_take 10 41 (.pointer (some ⟨b, off + j * 11, none⟩)) rfl rfl (by kernel_rfl) (by kernel_rfl) (by kernel_rfl) (fun _ _ _ h => h) (by rfl) (by intro w' hSw; (try dsimp only at hSw); go_simp; (try (with_reducible rfl))) (by assumption) ?_
                  simp only [Act.put, List.setIfInBounds_toArray, List.set_cons_zero, List.set_cons_succ]
                  refine held_take 11 42 (.pointer (some ⟨b, off + j * 11 + 1, none⟩)) rfl rfl (by kernel_rfl) (by kernel_rfl) (by kernel_rfl) (fun _ _ _ h => h) (by rfl) (by intro w' hSw; (try dsimp only at hSw); go_simp; (try (with_reducible rfl))) (by assumption) ?_
                  simp only [Act.put, List.setIfInBounds_toArray, List.set_cons_zero, List.set_cons_succ]
                  refine held_take 12 43 (.int .i64 y.prio) rfl rfl (by kernel_rfl) (by kernel_rfl) (by kernel_rfl) (fun _ _ _ h => h) (by rfl) (by intro w' hSw; (try dsimp only at hSw); go_simp; (try (with_reducible rfl))) (by assumption) ?_
                  simp only [Act.put, List.setIfInBounds_toArray, List.set_cons_zero, List.set_cons_succ]
                  refine held_take 13 44 (.bool false) rfl rfl (by kernel_rfl) (by kernel_rfl) (by kernel_rfl) (fun _ _ _ h => h) (by rfl) (by intro w' hSw; (try dsimp only at hSw); go_simp; (first | done | with_reducible rfl | (have hh := HG.out; first | omega | (simp; omega)))) (by assumption) ?_
                  simp only [Act.put, List.setIfInBounds_toArray, List.set_cons_zero, List.set_cons_succ]
                  refine held_take 14 45 (.bool false) rfl rfl (by kernel_rfl) (by kernel_rfl) (by kernel_rfl) (fun _ _ _ h => h) (by rfl) (by intro w' hSw; (try dsimp only at hSw); go_simp; (try (with_reducible rfl))) (by assumption) ?_
                  simp only [Act.put, List.setIfInBounds_toArray, List.set_cons_zero, List.set_cons_succ]
                  refine held_take 15 46 (.bool false) rfl rfl (by kernel_rfl) (by kernel_rfl) (by kernel_rfl) (fun _ _ _ h => h) (by rfl) (by intro w' hSw; (try dsimp only at hSw); go_simp; (try (with_reducible rfl))) (by assumption) ?_
                  simp only [Act.put, List.setIfInBounds_toArray, List.set_cons_zero, List.set_cons_succ]
                  refine held_take 16 47 (.slice (some ⟨b, off, none⟩) l.length c) rfl rfl (by kernel_rfl) (by kernel_rfl) (by kernel_rfl) (fun _ _ _ h => h) (by rfl) (by intro w' hSw; (try dsimp only at hSw); go_simp; (try (with_reducible rfl))) (by assumption) ?_
                  simp only [Act.put, List.setIfInBounds_toArray, List.set_cons_zero, List.set_cons_succ]
                  refine held_take 17 48 (.int .i64 i) rfl rfl (by kernel_rfl) (by kernel_rfl) (by kernel_rfl) (fun _ _ _ h => h) (by rfl) (by intro w' hSw; (try dsimp only at hSw); go_simp; (try (with_reducible rfl))) (by assumption) ?_
                  simp only [Act.put, List.setIfInBounds_toArray, List.set_cons_zero, List.set_cons_succ]
                  refine held_take 18 49 (.pointer (some ⟨b, off + i * 11, none⟩)) rfl rfl (by kernel_rfl) (by kernel_rfl) (by kernel_rfl) (fun _ _ _ h => h) (by rfl) (by intro w' hSw; (try dsimp only at hSw); go_simp; (try (with_reducible rfl))) (by assumption) ?_
                  simp only [Act.put, List.setIfInBounds_toArray, List.set_cons_zero, List.set_cons_succ]
                  refine held_take 19 50 (.pointer (some ⟨b, off + i * 11 + 1, none⟩)) rfl rfl (by kernel_rfl) (by kernel_rfl) (by kernel_rfl) (fun _ _ _ h => h) (by rfl) (by intro w' hSw; (try dsimp only at hSw); go_simp; (try (with_reducible rfl))) (by assumption) ?_
                  simp only [Act.put, List.setIfInBounds_toArray, List.set_cons_zero, List.set_cons_succ]
                  refine held_take 20 51 (.int .i64 x.prio) rfl rfl (by kernel_rfl) (by kernel_rfl) (by kernel_rfl) (fun _ _ _ h => h) (by rfl) (by intro w' hSw; (try dsimp only at hSw); go_simp; (try (with_reducible rfl))) (by assumption) ?_
                  simp only [Act.put, List.setIfInBounds_toArray, List.set_cons_zero, List.set_cons_succ]
                  refine held_take 21 52 (.slice (some ⟨b, off, none⟩) l.length c) rfl rfl (by kernel_rfl) (by kernel_rfl) (by kernel_rfl) (fun _ _ _ h => h) (by rfl) (by intro w' hSw; (try dsimp only at hSw); go_simp; (try (with_reducible rfl))) (by assumption) ?_
                  simp only [Act.put, List.setIfInBounds_toArray, List.set_cons_zero, List.set_cons_succ]
                  refine held_take 22 53 (.int .i64 j) rfl rfl (by kernel_rfl) (by kernel_rfl) (by kernel_rfl) (fun _ _ _ h => h) (by rfl) (by intro w' hSw; (try dsimp only at hSw); go_simp; (try (with_reducible rfl))) (by assumption) ?_
                  simp only [Act.put, List.setIfInBounds_toArray, List.set_cons_zero, List.set_cons_succ]
                  refine held_take 23 54 (.pointer (some ⟨b, off + j * 11, none⟩)) rfl rfl (by kernel_rfl) (by kernel_rfl) (by kernel_rfl) (fun _ _ _ h => h) (by rfl) (by intro w' hSw; (try dsimp only at hSw); go_simp; (try (with_reducible rfl))) (by assumption) ?_
                  simp only [Act.put, List.setIfInBounds_toArray, List.set_cons_zero, List.set_cons_succ]
                  refine held_take 24 55 (.pointer (some ⟨b, off + j * 11 + 1, none⟩)) rfl rfl (by kernel_rfl) (by kernel_rfl) (by kernel_rfl) (fun _ _ _ h => h) (by rfl) (by intro w' hSw; (try dsimp only at hSw); go_simp; (try (with_reducible rfl))) (by assumption) ?_
                  simp only [Act.put, List.setIfInBounds_toArray, List.set_cons_zero, List.set_cons_succ]
                  refine held_take 25 56 (.int .i64 y.prio) rfl rfl (by kernel_rfl) (by kernel_rfl) (by kernel_rfl) (fun _ _ _ h => h) (by rfl) (by intro w' hSw; (try dsimp only at hSw); go_simp; (try (with_reducible rfl))) (by assumption) ?_
                  simp only [Act.put, List.setIfInBounds_toArray, List.set_cons_zero, List.set_cons_succ]
                  refine held_take 26 57 (.bool true) rfl rfl (by kernel_rfl) (by kernel_rfl) (by kernel_rfl) (fun _ _ _ h => h) (by rfl) (by intro w' hSw; (try dsimp only at hSw); go_simp; (first | done | with_reducible rfl | (have hh := HG.out; first | omega | (simp; omega)))) (by assumption) ?_
                  simp only [Act.put, List.setIfInBounds_toArray, List.set_cons_zero, List.set_cons_succ]
                  refine held_take 27 58 (.bool true) rfl rfl (by kernel_rfl) (by kernel_rfl) (by kernel_rfl) (fun _ _ _ h => h) (by rfl) (by intro w' hSw; (try dsimp only at hSw); go_simp; (try (with_reducible rfl))) (by assumption) ?_
                  simp only [Act.put, List.setIfInBounds_toArray, List.set_cons_zero, List.set_cons_succ]
                  refine held_take 28 59 (.slice (some ⟨b, off, none⟩) l.length c) rfl rfl (by kernel_rfl) (by kernel_rfl) (by kernel_rfl) (fun _ _ _ h => h) (by rfl) (by intro w' hSw; (try dsimp only at hSw); go_simp; (try (with_reducible rfl))) (by assumption) ?_
                  simp only [Act.put, List.setIfInBounds_toArray, List.set_cons_zero, List.set_cons_succ]
                  refine held_take 29 60 (.int .i64 i) rfl rfl (by kernel_rfl) (by kernel_rfl) (by kernel_rfl) (fun _ _ _ h => h) (by rfl) (by intro w' hSw; (try dsimp only at hSw); go_simp; (try (with_reducible rfl))) (by assumption) ?_
                  simp only [Act.put, List.setIfInBounds_toArray, List.set_cons_zero, List.set_cons_succ]
                  refine held_take 30 61 (.pointer (some ⟨b, off + i * 11, none⟩)) rfl rfl (by kernel_rfl) (by kernel_rfl) (by kernel_rfl) (fun _ _ _ h => h) (by rfl) (by intro w' hSw; (try dsimp only at hSw); go_simp; (try (with_reducible rfl))) (by assumption) ?_
                  simp only [Act.put, List.setIfInBounds_toArray, List.set_cons_zero, List.set_cons_succ]
                  refine held_take 31 62 (.pointer (some ⟨b, off + i * 11, none⟩)) rfl rfl (by kernel_rfl) (by kernel_rfl) (by kernel_rfl) (fun _ _ _ h => h) (by rfl) (by intro w' hSw; (try dsimp only at hSw); go_simp; (try (with_reducible rfl))) (by assumption) ?_
                  simp only [Act.put, List.setIfInBounds_toArray, List.set_cons_zero, List.set_cons_succ]
                  refine held_take 32 63 (.string x.id) rfl rfl (by kernel_rfl) (by kernel_rfl) (by kernel_rfl) (fun _ _ _ h => h) (by rfl) (by intro w' hSw; (try dsimp only at hSw); go_simp; (try (with_reducible rfl))) (by assumption) ?_
                  simp only [Act.put, List.setIfInBounds_toArray, List.set_cons_zero, List.set_cons_succ]
                  refine held_take 33 64 (.slice (some ⟨b, off, none⟩) l.length c) rfl rfl (by kernel_rfl) (by kernel_rfl) (by kernel_rfl) (fun _ _ _ h => h) (by rfl) (by intro w' hSw; (try dsimp only at hSw); go_simp; (try (with_reducible rfl))) (by assumption) ?_
                  simp only [Act.put, List.setIfInBounds_toArray, List.set_cons_zero, List.set_cons_succ]
                  refine held_take 34 65 (.int .i64 j) rfl rfl (by kernel_rfl) (by kernel_rfl) (by kernel_rfl) (fun _ _ _ h => h) (by rfl) (by intro w' hSw; (try dsimp only at hSw); go_simp; (try (with_reducible rfl))) (by assumption) ?_
                  simp only [Act.put, List.setIfInBounds_toArray, List.set_cons_zero, List.set_cons_succ]
                  refine held_take 35 66 (.pointer (some ⟨b, off + j * 11, none⟩)) rfl rfl (by kernel_rfl) (by kernel_rfl) (by kernel_rfl) (fun _ _ _ h => h) (by rfl) (by intro w' hSw; (try dsimp only at hSw); go_simp; (try (with_reducible rfl))) (by assumption) ?_
                  simp only [Act.put, List.setIfInBounds_toArray, List.set_cons_zero, List.set_cons_succ]
                  refine held_take 36 67 (.pointer (some ⟨b, off + j * 11, none⟩)) rfl rfl (by kernel_rfl) (by kernel_rfl) (by kernel_rfl) (fun _ _ _ h => h) (by rfl) (by intro w' hSw; (try dsimp only at hSw); go_simp; (try (with_reducible rfl))) (by assumption) ?_
                  simp only [Act.put, List.setIfInBounds_toArray, List.set_cons_zero, List.set_cons_succ]
                  refine held_take 37 68 (.string y.id) rfl rfl (by kernel_rfl) (by kernel_rfl) (by kernel_rfl) (fun _ _ _ h => h) (by rfl) (by intro w' hSw; (try dsimp only at hSw); go_simp; (try (with_reducible rfl))) (by assumption) ?_
                  simp only [Act.put, List.setIfInBounds_toArray, List.set_cons_zero, List.set_cons_succ]
                  refine held_take 38 69 (.bool true) rfl rfl (by kernel_rfl) (by kernel_rfl) (by kernel_rfl) (fun _ _ _ h => h) (by rfl) (by intro w' hSw; (try dsimp only at hSw); go_simp; (first | done | with_reducible rfl | exact HBL.out)) (by assumption) ?_
                  simp only [Act.put, List.setIfInBounds_toArray, List.set_cons_zero, List.set_cons_succ]
                  refine held_take 39 70 (.bool true) rfl rfl (by kernel_rfl) (by kernel_rfl) (by kernel_rfl) (fun _ _ _ h => h) (by rfl) (by intro w' hSw; (try dsimp only at hSw); go_simp; (try (with_reducible rfl))) (by assumption) ?_
                  simp only [Act.put, List.setIfInBounds_toArray, List.set_cons_zero, List.set_cons_succ]
                  refine held_take 40 71 (.bool true) rfl rfl (by kernel_rfl) (by kernel_rfl) (by kernel_rfl) (fun _ _ _ h => h) (by rfl) (by intro w' hSw; (try dsimp only at hSw); go_simp; (try (with_reducible rfl))) (by assumption) ?_
                  simp only [Act.put, List.setIfInBounds_toArray, List.set_cons_zero, List.set_cons_succ]
                  refine wpAnyH_done (by kernel_rfl) ?_ _
                  clear hHeld
                  go_wp2_with fail
                  go_roundw
                  case rel => exact ⟨i + 1, (i : Int), by omega, rfl, by go_num, HN.out, HP.out⟩
                  case measure => simp [intOf]; omega
    · obtain rfl : i = l.length := by omega
      have dk : decide ((l.length : Int) < (l.length : Int)) = false := by simp
      go_wp2_with fail
      go_ret
      exact ⟨z, rfl, HBA.out, HQ.out.bel⟩
end Go.Proofs.YtlhmhcidknadmaaGreatDoor
