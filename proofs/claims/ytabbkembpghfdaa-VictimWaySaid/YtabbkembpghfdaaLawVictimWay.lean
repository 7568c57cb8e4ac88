/- bilgelaw21.VictimWay: there is a way just if the pod fits beside those that may not go for it; nobody goes just if all fit. -/
import Derived.Test.YtabbkembpghfdaaLawVictimNobody
import Derived.Test.YtabbkembpghfdaaVPlain
namespace Go.Proofs.Ytabbkembpghfdaa
open Go.RowKit

theorem chooseWay {room : S3} {p : Pd} {l : List Pd} {v1 v2 : Bool} (h1 : fitsB room (stayD p l) = v1) (h2 : fitsB room (l ++ [p]) = v2) (A : Option Addr) (c : Nat) (w : World) (hr : Rds w encP A l) (hn : l.length ≤ 50000) (hwf : ∀ x ∈ l, x.Wf) (hp : p.Wf) :
    Calls Try.prog 16 #[.agg #[.int .i64 room.a, .int .i64 room.b, .int .i64 room.c], .slice A l.length c, .agg p.cells] w fun e w' => ∃ (n : Nat) (A : Option Addr) (c : Nat), e = .returned (.tuple #[.slice A n c, .bool v1]) ∧ (v1 = false → v2 = false) ∧ (v1 = true → (n = 0 ↔ v2 = true)) ∧ Below w.heap.size w w' := by
  refine (choose_any room p l A c w hr hn hwf hp).mono ?_
  rintro e w' ⟨K, hk, _, h⟩
  have hall : fitsB room (stayD p l ++ K) = v2 := by rw [fitsB_perm ((hk.append_left _).trans (stay_ask p l))]; exact h2
  rcases h with ⟨hf, rfl, hb⟩ | ⟨hf, O, A, c, hpo, _, rfl, _, hb⟩
  · rw [hf] at h1
    subst h1
    refine ⟨0, none, 0, rfl, fun _ => ?_, fun h => (by cases h), hb⟩
    cases v2
    · rfl
    · rw [fitsB_left hall] at hf; cases hf
  · rw [hf] at h1
    subst h1
    refine ⟨O.length, A, c, rfl, fun h => (by cases h), fun _ => ?_, hb⟩
    have h3 := chooseD_none room K (stayD p l) hf
    rw [hall] at h3
    rw [← h3, hpo.length_eq, List.length_eq_zero_iff]
set_option maxRecDepth 100000 in
set_option maxHeartbeats 16000000 in
theorem victimWay_any (room : S3) (l : List Pd) (p : Pd) (Al : Option Addr) (cl : Nat) (w : World) (hr : Rds w encP Al l) (hw : ∀ x ∈ l, x.Wf) (hm : l.length ≤ 9223372036854775807) (hp : p.Wf) :
    Calls Try.prog 6 #[.agg #[.int .i64 room.a, .int .i64 room.b, .int .i64 room.c], .slice Al l.length cl, .agg p.cells] w fun e w' => e = .returned (.bool true) ∧ Below w.heap.size w w' := by
  have mixed : Try.prog.follows Departure.mixedOrders = true := by kernel_rfl
  have HQ := Lib.hid (CQ.new room p w)
  have HR := Lib.hid hr
  have HW := Lib.hid hw
  have HPW := Lib.hid hp
  clear hr hw hp
  go_enter Try.func6, Try.ntmps6
  go_wp2_with fail
  refine (awake21_any _).mono ?_; rintro e w1 ⟨rfl, hb⟩
  have HQ := Lib.hid (HQ.out.below hb)
  clear hb
  have crm := HQ.out.rm.cell
  have cp := HQ.out.pb.cell
  by_cases hf : FitV room l p
  rotate_left
  · go_wp2_with fail
    refine (refFitV_any (v := false) (room := room) (p := p) (by simp [hf]) Al cl _ (HR.out.below HQ.out.bel) HW.out HPW.out hm).mono ?_; rintro e w2 ⟨rfl, hb⟩
    have HQ := Lib.hid (HQ.out.below hb)
    clear hb crm cp hf
    go_wp2_with fail
    refine (awake21_any _).mono ?_; rintro e w3 ⟨rfl, hb⟩
    have HQ := Lib.hid (HQ.out.below hb)
    clear hb
    go_wp2_with fail
    go_ret
    exact ⟨rfl, HQ.out.bel⟩
  · have HF := Lib.hid hf
    go_wp2_with fail
    refine (refFitV_any (v := true) (room := room) (p := p) (by simp [hf]) Al cl _ (HR.out.below HQ.out.bel) HW.out HPW.out hm).mono ?_; rintro e w1 ⟨rfl, hb⟩
    have HQ := Lib.hid (HQ.out.below hb)
    have HRL := Lib.hid (HR.out.below HQ.out.bel)
    have hl := hf.len
    clear hb crm cp hf
    obtain ⟨va, hva⟩ : ∃ v, fitsB room (stayD p l) = v := ⟨_, rfl⟩
    obtain ⟨vb, hvb⟩ : ∃ v, fitsB room (l ++ [p]) = v := ⟨_, rfl⟩
    have HVA := Lib.hid hva
    have HVB := Lib.hid hvb
    clear hva hvb HF
    have crm := HQ.out.rm.cell
    have cp := HQ.out.pb.cell
    go_wp2_with fail
    refine (chooseWay HVA.out HVB.out Al cl _ HRL.out (by omega) HW.out HPW.out).mono ?_; rintro e w2 ⟨n, Ax, cx, rfl, hn1, hn2, hb⟩
    have HN := Lib.hid (And.intro hn1 hn2)
    have HQ2 := Lib.hid (HQ.out.below hb)
    have HRL2 := Lib.hid (HRL.out.below hb)
    clear hb hn1 hn2 crm cp HQ HRL
    have cp := HQ2.out.pb.cell
    go_wp2_with fail
    have HO0 := Lib.hid (Own.made w2 w2.heap.size 25 encP [p] #[.string p.id, .int .i64 p.prio, .bool p.crit, .int .i64 p.q0, .int .i64 p.q1, .int .i64 p.q2, .int .i64 p.l0, .int .i64 p.l1, .int .i64 p.l2, .string p.image, .int .i64 p.size] rfl (Nat.le_refl _) (by simp))
    have hb0 : Below w2.heap.size w2 (w2.alloc (.cells #[.string p.id, .int .i64 p.prio, .bool p.crit, .int .i64 p.q0, .int .i64 p.q1, .int .i64 p.q2, .int .i64 p.l0, .int .i64 p.l1, .int .i64 p.l2, .string p.image, .int .i64 p.size] 25)) := (Below.refl _ _).alloc (Nat.le_refl _) _
    have HB0 := Lib.hid hb0
    clear hb0 cp
    go_loopw [9, 10] (fun st ii wr => ∃ (i : Nat) (A : Option Addr) (c : Nat), i ≤ l.length ∧ ii = .int .i64 i ∧ st = .slice A (stayD p (l.take i)).length c ∧ Own wr w2.heap.size 25 encP (.slice A (stayD p (l.take i)).length c) (stayD p (l.take i)) ∧ Below w2.heap.size w2 wr) (fun _ ii _ => l.length - (intOf ii).toNat)
    case atStart => exact ⟨0, some ⟨w2.heap.size, 0, none⟩, 1, by omega, rfl, rfl, HO0.out, HB0.out⟩
    case round =>
      clear HO0 HB0
      obtain ⟨i, A1, c1, hi, rfl, rfl, ho, hbl⟩ := hrel
      have HP := Lib.hid (And.intro ho hbl)
      have HQ := Lib.hid (HQ2.out.below hbl)
      have HRi := Lib.hid (HRL2.out.below hbl)
      clear ho hbl
      have hsl := stayD_len p (l.take i)
      rw [List.length_take] at hsl
      by_cases hlt : i < l.length
      · have dk : decide ((i : Int) < (l.length : Int)) = true := decide_eq_true (by omega)
        have dk2 : (i : Int) < (l.length : Int) := by omega
        obtain ⟨b, off, hA⟩ := HR.out.some_ hlt
        obtain rfl : Al = some ⟨b, off, none⟩ := hA
        have HXI := Lib.hid (List.getElem?_eq_getElem hlt)
        have HSN := Lib.hid (show stayD p (l.take (i + 1)) = stayD p (l.take i) ++ (if mayV p l[i] then [] else [l[i]]) by rw [List.take_succ_eq_append_getElem hlt, stayD_snoc])
        generalize stayD p (l.take i) = S at *
        generalize l[i] = x at *
        cases hm2 : mayV p x
        · have HM := Lib.hid hm2
          have HN2 : Hid (stayD p (l.take (i + 1)) = S ++ [x]) := by show _ = _; rw [HSN.out, hm2]; rfl
          clear hm2 HSN
          go_wp2_with fail
          have HQd := Lib.hid HQ.out.drew
          obtain ⟨x0, x1, x2, x3, x4, x5, x6, x7, x8, x9, x10⟩ := HRi.out.drew.pdAt (Below.refl _ _) HXI.out
          obtain ⟨y0, y1, y2, y3, y4, y5, y6, y7, y8, y9, y10⟩ := HQd.out.pb.pd
          refine wp_region_held_drew (S := (fun w' => w'.cell? ⟨w.heap.size + 1, 0, none⟩ = some (.string p.id) ∧ w'.cell? ⟨w.heap.size + 1, 1, none⟩ = some (.int .i64 p.prio) ∧ w'.cell? ⟨w.heap.size + 1, 2, none⟩ = some (.bool p.crit) ∧ w'.cell? ⟨w.heap.size + 1, 3, none⟩ = some (.int .i64 p.q0) ∧ w'.cell? ⟨w.heap.size + 1, 4, none⟩ = some (.int .i64 p.q1) ∧ w'.cell? ⟨w.heap.size + 1, 5, none⟩ = some (.int .i64 p.q2) ∧ w'.cell? ⟨w.heap.size + 1, 6, none⟩ = some (.int .i64 p.l0) ∧ w'.cell? ⟨w.heap.size + 1, 7, none⟩ = some (.int .i64 p.l1) ∧ w'.cell? ⟨w.heap.size + 1, 8, none⟩ = some (.int .i64 p.l2) ∧ w'.cell? ⟨w.heap.size + 1, 9, none⟩ = some (.string p.image) ∧ w'.cell? ⟨w.heap.size + 1, 10, none⟩ = some (.int .i64 p.size) ∧ w'.cell? ⟨b, off + i * 11, none⟩ = some (.string x.id) ∧ w'.cell? ⟨b, off + i * 11 + 1, none⟩ = some (.int .i64 x.prio) ∧ w'.cell? ⟨b, off + i * 11 + 2, none⟩ = some (.bool x.crit) ∧ w'.cell? ⟨b, off + i * 11 + 3, none⟩ = some (.int .i64 x.q0) ∧ w'.cell? ⟨b, off + i * 11 + 4, none⟩ = some (.int .i64 x.q1) ∧ w'.cell? ⟨b, off + i * 11 + 5, none⟩ = some (.int .i64 x.q2) ∧ w'.cell? ⟨b, off + i * 11 + 6, none⟩ = some (.int .i64 x.l0) ∧ w'.cell? ⟨b, off + i * 11 + 7, none⟩ = some (.int .i64 x.l1) ∧ w'.cell? ⟨b, off + i * 11 + 8, none⟩ = some (.int .i64 x.l2) ∧ w'.cell? ⟨b, off + i * 11 + 9, none⟩ = some (.string x.image) ∧ w'.cell? ⟨b, off + i * 11 + 10, none⟩ = some (.int .i64 x.size))) (by kernel_rfl) (⟨y0, y1, y2, y3, y4, y5, y6, y7, y8, y9, y10, x0, x1, x2, x3, x4, x5, x6, x7, x8, x9, x10⟩) (fun hHeld => ?_)
          clear x0 y0 x1 y1 x2 y2 x3 y3 x4 y4 x5 y5 x6 y6 x7 y7 x8 y8 x9 y9 x10 y10
          refine held_take 0 37 (.agg #[.string p.id, .int .i64 p.prio, .bool p.crit, .int .i64 p.q0, .int .i64 p.q1, .int .i64 p.q2, .int .i64 p.l0, .int .i64 p.l1, .int .i64 p.l2, .string p.image, .int .i64 p.size]) rfl rfl (by kernel_rfl) (by kernel_rfl) (by kernel_rfl) (fun _ _ _ h => h) (by rfl) (by intro w' hSw; (try dsimp only at hSw); go_simp; (try (with_reducible rfl))) (by assumption) ?_
          simp only [Act.put, List.setIfInBounds_toArray, List.set_cons_zero, List.set_cons_succ]
          refine held_take 1 38 (.slice (some ⟨b, off, none⟩) l.length cl) rfl rfl (by kernel_rfl) (by kernel_rfl) (by kernel_rfl) (fun _ _ _ h => h) (by rfl) (by intro w' hSw; (try dsimp only at hSw); go_simp; (try (with_reducible rfl))) (by assumption) ?_
          simp only [Act.put, List.setIfInBounds_toArray, List.set_cons_zero, List.set_cons_succ]
          refine held_take 2 39 (.int .i64 i) rfl rfl (by kernel_rfl) (by kernel_rfl) (by kernel_rfl) (fun _ _ _ h => h) (by rfl) (by intro w' hSw; (try dsimp only at hSw); go_simp; (try (with_reducible rfl))) (by assumption) ?_
          simp only [Act.put, List.setIfInBounds_toArray, List.set_cons_zero, List.set_cons_succ]
          refine held_take 3 40 (.pointer (some ⟨b, off + i * 11, none⟩)) rfl rfl (by kernel_rfl) (by kernel_rfl) (by kernel_rfl) (fun _ _ _ h => h) (by rfl) (by intro w' hSw; (try dsimp only at hSw); go_simp; (try (with_reducible rfl))) (by assumption) ?_
          simp only [Act.put, List.setIfInBounds_toArray, List.set_cons_zero, List.set_cons_succ]
          refine held_take 4 41 (.agg #[.string x.id, .int .i64 x.prio, .bool x.crit, .int .i64 x.q0, .int .i64 x.q1, .int .i64 x.q2, .int .i64 x.l0, .int .i64 x.l1, .int .i64 x.l2, .string x.image, .int .i64 x.size]) rfl rfl (by kernel_rfl) (by kernel_rfl) (by kernel_rfl) (fun _ _ _ h => h) (by rfl) (by intro w' hSw; (try dsimp only at hSw); go_simp; (try (with_reducible rfl))) (by assumption) ?_
          simp only [Act.put, List.setIfInBounds_toArray, List.set_cons_zero, List.set_cons_succ]
          refine held_call 5 42 rfl rfl (by kernel_rfl) (by rfl) (fun K hK => ?_)
          go_simp
          go_at_call 14; with_reducible refine (vmayV HM.out _).mono ?_; rintro e v1 ⟨rfl, hb⟩
          have HQ := Lib.hid (HQd.out.below hb)
          have HP := Lib.hid (And.intro (HP.out.1.drew.below hb (Nat.le_refl _)) (HP.out.2.drew.trans (hb.mono HP.out.2.drew.size)))
          have HRi := Lib.hid (HRi.out.drew.below hb)
          clear hb
          obtain ⟨x0, x1, x2, x3, x4, x5, x6, x7, x8, x9, x10⟩ := HRi.out.pdAt (Below.refl _ _) HXI.out
          obtain ⟨y0, y1, y2, y3, y4, y5, y6, y7, y8, y9, y10⟩ := HQ.out.pb.pd
          refine hK _ _ (⟨y0, y1, y2, y3, y4, y5, y6, y7, y8, y9, y10, x0, x1, x2, x3, x4, x5, x6, x7, x8, x9, x10⟩) ?_
          have hHeld := (show v1.cell? ⟨w.heap.size + 1, 0, none⟩ = some (.string p.id) ∧ v1.cell? ⟨w.heap.size + 1, 1, none⟩ = some (.int .i64 p.prio) ∧ v1.cell? ⟨w.heap.size + 1, 2, none⟩ = some (.bool p.crit) ∧ v1.cell? ⟨w.heap.size + 1, 3, none⟩ = some (.int .i64 p.q0) ∧ v1.cell? ⟨w.heap.size + 1, 4, none⟩ = some (.int .i64 p.q1) ∧ v1.cell? ⟨w.heap.size + 1, 5, none⟩ = some (.int .i64 p.q2) ∧ v1.cell? ⟨w.heap.size + 1, 6, none⟩ = some (.int .i64 p.l0) ∧ v1.cell? ⟨w.heap.size + 1, 7, none⟩ = some (.int .i64 p.l1) ∧ v1.cell? ⟨w.heap.size + 1, 8, none⟩ = some (.int .i64 p.l2) ∧ v1.cell? ⟨w.heap.size + 1, 9, none⟩ = some (.string p.image) ∧ v1.cell? ⟨w.heap.size + 1, 10, none⟩ = some (.int .i64 p.size) ∧ v1.cell? ⟨b, off + i * 11, none⟩ = some (.string x.id) ∧ v1.cell? ⟨b, off + i * 11 + 1, none⟩ = some (.int .i64 x.prio) ∧ v1.cell? ⟨b, off + i * 11 + 2, none⟩ = some (.bool x.crit) ∧ v1.cell? ⟨b, off + i * 11 + 3, none⟩ = some (.int .i64 x.q0) ∧ v1.cell? ⟨b, off + i * 11 + 4, none⟩ = some (.int .i64 x.q1) ∧ v1.cell? ⟨b, off + i * 11 + 5, none⟩ = some (.int .i64 x.q2) ∧ v1.cell? ⟨b, off + i * 11 + 6, none⟩ = some (.int .i64 x.l0) ∧ v1.cell? ⟨b, off + i * 11 + 7, none⟩ = some (.int .i64 x.l1) ∧ v1.cell? ⟨b, off + i * 11 + 8, none⟩ = some (.int .i64 x.l2) ∧ v1.cell? ⟨b, off + i * 11 + 9, none⟩ = some (.string x.image) ∧ v1.cell? ⟨b, off + i * 11 + 10, none⟩ = some (.int .i64 x.size) from ⟨y0, y1, y2, y3, y4, y5, y6, y7, y8, y9, y10, x0, x1, x2, x3, x4, x5, x6, x7, x8, x9, x10⟩)
          clear hK K x0 y0 x1 y1 x2 y2 x3 y3 x4 y4 x5 y5 x6 y6 x7 y7 x8 y8 x9 y9 x10 y10
          simp only [Act.put, List.setIfInBounds_toArray, List.set_cons_zero, List.set_cons_succ]
          refine held_take 6 43 (.bool true) rfl rfl (by kernel_rfl) (by kernel_rfl) (by kernel_rfl) (fun _ _ _ h => h) (by rfl) (by intro w' hSw; (try dsimp only at hSw); go_simp; (try (with_reducible rfl))) (by assumption) ?_
          simp only [Act.put, List.setIfInBounds_toArray, List.set_cons_zero, List.set_cons_succ]
          refine wpAnyH_done (by kernel_rfl) ?_ _
          clear hHeld
          obtain ⟨x0, x1, x2, x3, x4, x5, x6, x7, x8, x9, x10⟩ := HRi.out.pdAt (Below.refl _ _) HXI.out
          go_wp2_with (at_builtin; refine wl_push elemP encP rfl (.tmp 44) (.tmp 49) rfl x #[.string x.id, .int .i64 x.prio, .bool x.crit, .int .i64 x.q0, .int .i64 x.q1, .int .i64 x.q2, .int .i64 x.l0, .int .i64 x.l1, .int .i64 x.l2, .string x.image, .int .i64 x.size] rfl w2.heap.size _ S rfl HP.out.1 rfl rfl HP.out.2 (by omega) (by omega) HP.out.2.size ?_; intro A3 k3 w3 ho hb _; have HX3 := Lib.hid (And.intro ho hb); clear ho hb)
          go_roundw
          case rel => exact ⟨i + 1, A3, k3, by omega, by go_num, by rw [HN2.out, List.length_append]; rfl, by rw [HN2.out]; exact own_len1 HX3.out.1, HX3.out.2⟩
          case measure => simp [intOf]; omega
        · have HM := Lib.hid hm2
          have HN2 : Hid (stayD p (l.take (i + 1)) = S) := by show _ = _; rw [HSN.out, hm2]; simp
          clear hm2 HSN
          go_wp2_with fail
          have HQd := Lib.hid HQ.out.drew
          obtain ⟨x0, x1, x2, x3, x4, x5, x6, x7, x8, x9, x10⟩ := HRi.out.drew.pdAt (Below.refl _ _) HXI.out
          obtain ⟨y0, y1, y2, y3, y4, y5, y6, y7, y8, y9, y10⟩ := HQd.out.pb.pd
          refine wp_region_held_drew (S := (fun w' => w'.cell? ⟨w.heap.size + 1, 0, none⟩ = some (.string p.id) ∧ w'.cell? ⟨w.heap.size + 1, 1, none⟩ = some (.int .i64 p.prio) ∧ w'.cell? ⟨w.heap.size + 1, 2, none⟩ = some (.bool p.crit) ∧ w'.cell? ⟨w.heap.size + 1, 3, none⟩ = some (.int .i64 p.q0) ∧ w'.cell? ⟨w.heap.size + 1, 4, none⟩ = some (.int .i64 p.q1) ∧ w'.cell? ⟨w.heap.size + 1, 5, none⟩ = some (.int .i64 p.q2) ∧ w'.cell? ⟨w.heap.size + 1, 6, none⟩ = some (.int .i64 p.l0) ∧ w'.cell? ⟨w.heap.size + 1, 7, none⟩ = some (.int .i64 p.l1) ∧ w'.cell? ⟨w.heap.size + 1, 8, none⟩ = some (.int .i64 p.l2) ∧ w'.cell? ⟨w.heap.size + 1, 9, none⟩ = some (.string p.image) ∧ w'.cell? ⟨w.heap.size + 1, 10, none⟩ = some (.int .i64 p.size) ∧ w'.cell? ⟨b, off + i * 11, none⟩ = some (.string x.id) ∧ w'.cell? ⟨b, off + i * 11 + 1, none⟩ = some (.int .i64 x.prio) ∧ w'.cell? ⟨b, off + i * 11 + 2, none⟩ = some (.bool x.crit) ∧ w'.cell? ⟨b, off + i * 11 + 3, none⟩ = some (.int .i64 x.q0) ∧ w'.cell? ⟨b, off + i * 11 + 4, none⟩ = some (.int .i64 x.q1) ∧ w'.cell? ⟨b, off + i * 11 + 5, none⟩ = some (.int .i64 x.q2) ∧ w'.cell? ⟨b, off + i * 11 + 6, none⟩ = some (.int .i64 x.l0) ∧ w'.cell? ⟨b, off + i * 11 + 7, none⟩ = some (.int .i64 x.l1) ∧ w'.cell? ⟨b, off + i * 11 + 8, none⟩ = some (.int .i64 x.l2) ∧ w'.cell? ⟨b, off + i * 11 + 9, none⟩ = some (.string x.image) ∧ w'.cell? ⟨b, off + i * 11 + 10, none⟩ = some (.int .i64 x.size))) (by kernel_rfl) (⟨y0, y1, y2, y3, y4, y5, y6, y7, y8, y9, y10, x0, x1, x2, x3, x4, x5, x6, x7, x8, x9, x10⟩) (fun hHeld => ?_)
          clear x0 y0 x1 y1 x2 y2 x3 y3 x4 y4 x5 y5 x6 y6 x7 y7 x8 y8 x9 y9 x10 y10
          refine held_take 0 37 (.agg #[.string p.id, .int .i64 p.prio, .bool p.crit, .int .i64 p.q0, .int .i64 p.q1, .int .i64 p.q2, .int .i64 p.l0, .int .i64 p.l1, .int .i64 p.l2, .string p.image, .int .i64 p.size]) rfl rfl (by kernel_rfl) (by kernel_rfl) (by kernel_rfl) (fun _ _ _ h => h) (by rfl) (by intro w' hSw; (try dsimp only at hSw); go_simp; (try (with_reducible rfl))) (by assumption) ?_
          simp only [Act.put, List.setIfInBounds_toArray, List.set_cons_zero, List.set_cons_succ]
          refine held_take 1 38 (.slice (some ⟨b, off, none⟩) l.length cl) rfl rfl (by kernel_rfl) (by kernel_rfl) (by kernel_rfl) (fun _ _ _ h => h) (by rfl) (by intro w' hSw; (try dsimp only at hSw); go_simp; (try (with_reducible rfl))) (by assumption) ?_
          simp only [Act.put, List.setIfInBounds_toArray, List.set_cons_zero, List.set_cons_succ]
          refine held_take 2 39 (.int .i64 i) rfl rfl (by kernel_rfl) (by kernel_rfl) (by kernel_rfl) (fun _ _ _ h => h) (by rfl) (by intro w' hSw; (try dsimp only at hSw); go_simp; (try (with_reducible rfl))) (by assumption) ?_
          simp only [Act.put, List.setIfInBounds_toArray, List.set_cons_zero, List.set_cons_succ]
          refine held_take 3 40 (.pointer (some ⟨b, off + i * 11, none⟩)) rfl rfl (by kernel_rfl) (by kernel_rfl) (by kernel_rfl) (fun _ _ _ h => h) (by rfl) (by intro w' hSw; (try dsimp only at hSw); go_simp; (try (with_reducible rfl))) (by assumption) ?_
          simp only [Act.put, List.setIfInBounds_toArray, List.set_cons_zero, List.set_cons_succ]
          refine held_take 4 41 (.agg #[.string x.id, .int .i64 x.prio, .bool x.crit, .int .i64 x.q0, .int .i64 x.q1, .int .i64 x.q2, .int .i64 x.l0, .int .i64 x.l1, .int .i64 x.l2, .string x.image, .int .i64 x.size]) rfl rfl (by kernel_rfl) (by kernel_rfl) (by kernel_rfl) (fun _ _ _ h => h) (by rfl) (by intro w' hSw; (try dsimp only at hSw); go_simp; (try (with_reducible rfl))) (by assumption) ?_
          simp only [Act.put, List.setIfInBounds_toArray, List.set_cons_zero, List.set_cons_succ]
          refine held_call 5 42 rfl rfl (by kernel_rfl) (by rfl) (fun K hK => ?_)
          go_simp
          go_at_call 14; with_reducible refine (vmayV HM.out _).mono ?_; rintro e v1 ⟨rfl, hb⟩
          have HQ := Lib.hid (HQd.out.below hb)
          have HP := Lib.hid (And.intro (HP.out.1.drew.below hb (Nat.le_refl _)) (HP.out.2.drew.trans (hb.mono HP.out.2.drew.size)))
          have HRi := Lib.hid (HRi.out.drew.below hb)
          clear hb
          obtain ⟨x0, x1, x2, x3, x4, x5, x6, x7, x8, x9, x10⟩ := HRi.out.pdAt (Below.refl _ _) HXI.out
          obtain ⟨y0, y1, y2, y3, y4, y5, y6, y7, y8, y9, y10⟩ := HQ.out.pb.pd
          refine hK _ _ (⟨y0, y1, y2, y3, y4, y5, y6, y7, y8, y9, y10, x0, x1, x2, x3, x4, x5, x6, x7, x8, x9, x10⟩) ?_
          have hHeld := (show v1.cell? ⟨w.heap.size + 1, 0, none⟩ = some (.string p.id) ∧ v1.cell? ⟨w.heap.size + 1, 1, none⟩ = some (.int .i64 p.prio) ∧ v1.cell? ⟨w.heap.size + 1, 2, none⟩ = some (.bool p.crit) ∧ v1.cell? ⟨w.heap.size + 1, 3, none⟩ = some (.int .i64 p.q0) ∧ v1.cell? ⟨w.heap.size + 1, 4, none⟩ = some (.int .i64 p.q1) ∧ v1.cell? ⟨w.heap.size + 1, 5, none⟩ = some (.int .i64 p.q2) ∧ v1.cell? ⟨w.heap.size + 1, 6, none⟩ = some (.int .i64 p.l0) ∧ v1.cell? ⟨w.heap.size + 1, 7, none⟩ = some (.int .i64 p.l1) ∧ v1.cell? ⟨w.heap.size + 1, 8, none⟩ = some (.int .i64 p.l2) ∧ v1.cell? ⟨w.heap.size + 1, 9, none⟩ = some (.string p.image) ∧ v1.cell? ⟨w.heap.size + 1, 10, none⟩ = some (.int .i64 p.size) ∧ v1.cell? ⟨b, off + i * 11, none⟩ = some (.string x.id) ∧ v1.cell? ⟨b, off + i * 11 + 1, none⟩ = some (.int .i64 x.prio) ∧ v1.cell? ⟨b, off + i * 11 + 2, none⟩ = some (.bool x.crit) ∧ v1.cell? ⟨b, off + i * 11 + 3, none⟩ = some (.int .i64 x.q0) ∧ v1.cell? ⟨b, off + i * 11 + 4, none⟩ = some (.int .i64 x.q1) ∧ v1.cell? ⟨b, off + i * 11 + 5, none⟩ = some (.int .i64 x.q2) ∧ v1.cell? ⟨b, off + i * 11 + 6, none⟩ = some (.int .i64 x.l0) ∧ v1.cell? ⟨b, off + i * 11 + 7, none⟩ = some (.int .i64 x.l1) ∧ v1.cell? ⟨b, off + i * 11 + 8, none⟩ = some (.int .i64 x.l2) ∧ v1.cell? ⟨b, off + i * 11 + 9, none⟩ = some (.string x.image) ∧ v1.cell? ⟨b, off + i * 11 + 10, none⟩ = some (.int .i64 x.size) from ⟨y0, y1, y2, y3, y4, y5, y6, y7, y8, y9, y10, x0, x1, x2, x3, x4, x5, x6, x7, x8, x9, x10⟩)
          clear hK K x0 y0 x1 y1 x2 y2 x3 y3 x4 y4 x5 y5 x6 y6 x7 y7 x8 y8 x9 y9 x10 y10
          simp only [Act.put, List.setIfInBounds_toArray, List.set_cons_zero, List.set_cons_succ]
          refine held_take 6 43 (.bool false) rfl rfl (by kernel_rfl) (by kernel_rfl) (by kernel_rfl) (fun _ _ _ h => h) (by rfl) (by intro w' hSw; (try dsimp only at hSw); go_simp; (try (with_reducible rfl))) (by assumption) ?_
          simp only [Act.put, List.setIfInBounds_toArray, List.set_cons_zero, List.set_cons_succ]
          refine wpAnyH_done (by kernel_rfl) ?_ _
          clear hHeld
          go_wp2_with fail
          go_roundw
          case rel => exact ⟨i + 1, A1, c1, by omega, by go_num, by rw [HN2.out], by rw [HN2.out]; exact HP.out.1, HP.out.2⟩
          case measure => simp [intOf]; omega
      · obtain rfl : i = l.length := by omega
        have dk : decide ((l.length : Int) < (l.length : Int)) = false := by simp
        rw [List.take_length] at HP hsl ⊢
        have HRL := HRi
        go_wp2_with fail
        have hHB : Below wr.heap.size wr wr := Below.refl _ _
        have HBr := Lib.hid hHB
        clear hHB
        go_cut [11] (fun v W => ∃ A7 c7, v = .slice A7 (l ++ [p]).length c7 ∧ Own W wr.heap.size 25 encP (.slice A7 (l ++ [p]).length c7) (l ++ [p]) ∧ Below wr.heap.size wr W)
        case first =>
          have HQd := Lib.hid HQ.out.drew
          have HRd := Lib.hid HRL.out.drew
          have hbd : Below wr.heap.size wr wr.drew := (Below.refl _ _).drew
          have HBd := Lib.hid hbd
          clear hbd
          refine wp_region_held_drew (S := (fun w' => w'.cell? ⟨w.heap.size + 1, 0, none⟩ = some (.string p.id) ∧ w'.cell? ⟨w.heap.size + 1, 1, none⟩ = some (.int .i64 p.prio) ∧ w'.cell? ⟨w.heap.size + 1, 2, none⟩ = some (.bool p.crit) ∧ w'.cell? ⟨w.heap.size + 1, 3, none⟩ = some (.int .i64 p.q0) ∧ w'.cell? ⟨w.heap.size + 1, 4, none⟩ = some (.int .i64 p.q1) ∧ w'.cell? ⟨w.heap.size + 1, 5, none⟩ = some (.int .i64 p.q2) ∧ w'.cell? ⟨w.heap.size + 1, 6, none⟩ = some (.int .i64 p.l0) ∧ w'.cell? ⟨w.heap.size + 1, 7, none⟩ = some (.int .i64 p.l1) ∧ w'.cell? ⟨w.heap.size + 1, 8, none⟩ = some (.int .i64 p.l2) ∧ w'.cell? ⟨w.heap.size + 1, 9, none⟩ = some (.string p.image) ∧ w'.cell? ⟨w.heap.size + 1, 10, none⟩ = some (.int .i64 p.size))) (by kernel_rfl) (HQd.out.pb.pd) (fun hHeld => ?_)
          generalize wr.drew = wd at *
          have hb0 : Below wd.heap.size wd wd := Below.refl _ _
          have HB := Lib.hid hb0
          clear hb0
          refine held_take 1 52 (.slice Al l.length cl) rfl rfl (by kernel_rfl) (by kernel_rfl) (by kernel_rfl) (fun _ _ _ h => h) (by rfl) (by intro w' hSw; (try dsimp only at hSw); go_simp; (try (with_reducible rfl))) (by assumption) ?_
          simp only [Act.put, List.setIfInBounds_toArray, List.set_cons_zero, List.set_cons_succ]
          refine held_take 3 54 (.agg #[.string p.id, .int .i64 p.prio, .bool p.crit, .int .i64 p.q0, .int .i64 p.q1, .int .i64 p.q2, .int .i64 p.l0, .int .i64 p.l1, .int .i64 p.l2, .string p.image, .int .i64 p.size]) rfl rfl (by kernel_rfl) (by kernel_rfl) (by kernel_rfl) (fun _ _ _ h => h) (by rfl) (by intro w' hSw; (try dsimp only at hSw); go_simp; (try (with_reducible rfl))) (by assumption) ?_
          simp only [Act.put, List.setIfInBounds_toArray, List.set_cons_zero, List.set_cons_succ]
          refine held_twoD 0 4 51 55 rfl rfl rfl rfl (by kernel_rfl) (by rfl) (by rfl) (fun K hK => ?_) (fun K hK => ?_)
          · go_simp
            have how := Own.made (wd) wd.heap.size 25 encP [] #[] rfl HB.out.size (by simp)
            have HOW := Lib.hid how
            clear how
            have HB := Lib.hid (HB.out.alloc HB.out.size (.cells #[] 25))
            have HQ := Lib.hid (HQd.out.below HB.out)
            refine hK _ _ HQ.out.pb.pd ?_
            have hHeld := HQ.out.pb.pd
            clear hK K
            simp only [Act.put, List.setIfInBounds_toArray, List.set_cons_zero, List.set_cons_succ]
            refine held_twoD 2 4 53 55 rfl rfl rfl rfl (by kernel_rfl) (by rfl) (by rfl) (fun K hK => ?_) (fun K hK => ?_)
            · refine wp_app (wd.alloc (.cells #[] 25)) elemP encP (.tmp 51) (.tmp 52) rfl wd.heap.size _ [] (by simp [Act.eval]) HOW.out Al l cl (by simp [Act.eval]) (HRd.out.below (HB.out.mono (by simp))) (by simp; omega) (by simp; omega) HB.out.size ?_
              intro A5 c5 w5 ho hg _
              have hb5 := HOW.out.belowGrown HB.out hg (Nat.le_refl _) HB.out.size
              have how : Own w5 wd.heap.size 25 encP (.slice A5 l.length c5) l := by simpa using ho
              have HOW := Lib.hid how
              have HB := Lib.hid hb5
              have HQ := Lib.hid (HQd.out.below HB.out)
              clear ho how hg hb5
              simp only [List.length_nil, Nat.zero_add]
              refine hK _ _ HQ.out.pb.pd ?_
              have hHeld := HQ.out.pb.pd
              clear hK K
              simp only [Act.put, List.setIfInBounds_toArray, List.set_cons_zero, List.set_cons_succ]
              refine held_call 4 55 rfl rfl (by kernel_rfl) (by rfl) (fun K hK => ?_)
              go_simp
              have hrw := Rds.made (w5) encP [p] 25 #[.string p.id, .int .i64 p.prio, .bool p.crit, .int .i64 p.q0, .int .i64 p.q1, .int .i64 p.q2, .int .i64 p.l0, .int .i64 p.l1, .int .i64 p.l2, .string p.image, .int .i64 p.size] (0, 0) rfl
              have HOW := Lib.hid (HOW.out.alloc (.cells #[.string p.id, .int .i64 p.prio, .bool p.crit, .int .i64 p.q0, .int .i64 p.q1, .int .i64 p.q2, .int .i64 p.l0, .int .i64 p.l1, .int .i64 p.l2, .string p.image, .int .i64 p.size] 25))
              have HRW := Lib.hid hrw
              clear hrw
              have HB := Lib.hid (HB.out.alloc HB.out.size (.cells #[.string p.id, .int .i64 p.prio, .bool p.crit, .int .i64 p.q0, .int .i64 p.q1, .int .i64 p.q2, .int .i64 p.l0, .int .i64 p.l1, .int .i64 p.l2, .string p.image, .int .i64 p.size] 25))
              have HQ := Lib.hid (HQd.out.below HB.out)
              refine hK _ _ HQ.out.pb.pd ?_
              have hHeld := HQ.out.pb.pd
              clear hK K
              simp only [Act.put, List.setIfInBounds_toArray, List.set_cons_zero, List.set_cons_succ]
              refine held_call 5 56 rfl rfl (by kernel_rfl) (by rfl) (fun K hK => ?_)
              refine wp_app (w5.alloc (.cells #[.string p.id, .int .i64 p.prio, .bool p.crit, .int .i64 p.q0, .int .i64 p.q1, .int .i64 p.q2, .int .i64 p.l0, .int .i64 p.l1, .int .i64 p.l2, .string p.image, .int .i64 p.size] 25)) elemP encP (.tmp 53) (.tmp 55) rfl wd.heap.size _ l (by simp [Act.eval]) HOW.out _ [p] 1 (by simp [Act.eval]) HRW.out (by simp; omega) (by simp; omega) HB.out.size ?_
              intro A7 c7 w7 ho hg _
              have hb7 := HOW.out.belowGrown HB.out hg (Nat.le_refl _) HB.out.size
              have HOW := Lib.hid ho
              have HB := Lib.hid hb7
              have HQ := Lib.hid (HQd.out.below HB.out)
              clear ho hg hb7
              refine hK _ _ HQ.out.pb.pd ?_
              have hHeld := HQ.out.pb.pd
              clear hK K
              simp only [Act.put, List.setIfInBounds_toArray, List.set_cons_zero, List.set_cons_succ]
              refine held_take 6 11 (.slice A7 (l.length + [p].length) c7) rfl rfl (by kernel_rfl) (by kernel_rfl) (by kernel_rfl) (fun _ _ _ h => h) (by rfl) (by intro w' _; go_simp; (try (with_reducible rfl))) (by assumption) ?_
              simp only [Act.put, List.setIfInBounds_toArray, List.set_cons_zero, List.set_cons_succ]
              refine wpAnyH_done (by kernel_rfl) ?_ _
              go_wp2_with fail
              go_meet
              exact ⟨A7, c7, by simp, by have h := HOW.out.mono HBd.out.size; simpa [List.length_append] using h, below_rV HBd.out HB.out⟩
            · go_simp
              have hrw := Rds.made (wd.alloc (.cells #[] 25)) encP [p] 25 #[.string p.id, .int .i64 p.prio, .bool p.crit, .int .i64 p.q0, .int .i64 p.q1, .int .i64 p.q2, .int .i64 p.l0, .int .i64 p.l1, .int .i64 p.l2, .string p.image, .int .i64 p.size] (0, 0) rfl
              rw [show (wd.alloc (.cells #[] 25)).heap.size = wd.heap.size + 1 from by simp] at hrw
              have HOW := Lib.hid (HOW.out.alloc (.cells #[.string p.id, .int .i64 p.prio, .bool p.crit, .int .i64 p.q0, .int .i64 p.q1, .int .i64 p.q2, .int .i64 p.l0, .int .i64 p.l1, .int .i64 p.l2, .string p.image, .int .i64 p.size] 25))
              have HRW := Lib.hid hrw
              clear hrw
              have HB := Lib.hid (HB.out.alloc HB.out.size (.cells #[.string p.id, .int .i64 p.prio, .bool p.crit, .int .i64 p.q0, .int .i64 p.q1, .int .i64 p.q2, .int .i64 p.l0, .int .i64 p.l1, .int .i64 p.l2, .string p.image, .int .i64 p.size] 25))
              have HQ := Lib.hid (HQd.out.below HB.out)
              refine hK _ _ HQ.out.pb.pd ?_
              have hHeld := HQ.out.pb.pd
              clear hK K
              simp only [Act.put, List.setIfInBounds_toArray, List.set_cons_zero, List.set_cons_succ]
              refine held_call 2 53 rfl rfl (by kernel_rfl) (by rfl) (fun K hK => ?_)
              refine wp_app ((wd.alloc (.cells #[] 25)).alloc (.cells #[.string p.id, .int .i64 p.prio, .bool p.crit, .int .i64 p.q0, .int .i64 p.q1, .int .i64 p.q2, .int .i64 p.l0, .int .i64 p.l1, .int .i64 p.l2, .string p.image, .int .i64 p.size] 25)) elemP encP (.tmp 51) (.tmp 52) rfl wd.heap.size _ [] (by simp [Act.eval]) HOW.out Al l cl (by simp [Act.eval]) (HRd.out.below (HB.out.mono (by simp))) (by simp; omega) (by simp; omega) HB.out.size ?_
              intro A5 c5 w5 ho hg _
              have hb5 := HOW.out.belowGrown HB.out hg (Nat.le_refl _) HB.out.size
              have HRW := Lib.hid (HRW.out.grownN hg (by simp [Value.ownBlock]))
              have how : Own w5 wd.heap.size 25 encP (.slice A5 l.length c5) l := by simpa using ho
              have HOW := Lib.hid how
              have HB := Lib.hid hb5
              have HQ := Lib.hid (HQd.out.below HB.out)
              clear ho how hg hb5
              simp only [List.length_nil, Nat.zero_add]
              refine hK _ _ HQ.out.pb.pd ?_
              have hHeld := HQ.out.pb.pd
              clear hK K
              simp only [Act.put, List.setIfInBounds_toArray, List.set_cons_zero, List.set_cons_succ]
              refine held_call 5 56 rfl rfl (by kernel_rfl) (by rfl) (fun K hK => ?_)
              refine wp_app (w5) elemP encP (.tmp 53) (.tmp 55) rfl wd.heap.size _ l (by simp [Act.eval]) HOW.out _ [p] 1 (by simp [Act.eval]) HRW.out (by simp; omega) (by simp; omega) HB.out.size ?_
              intro A7 c7 w7 ho hg _
              have hb7 := HOW.out.belowGrown HB.out hg (Nat.le_refl _) HB.out.size
              have HOW := Lib.hid ho
              have HB := Lib.hid hb7
              have HQ := Lib.hid (HQd.out.below HB.out)
              clear ho hg hb7
              refine hK _ _ HQ.out.pb.pd ?_
              have hHeld := HQ.out.pb.pd
              clear hK K
              simp only [Act.put, List.setIfInBounds_toArray, List.set_cons_zero, List.set_cons_succ]
              refine held_take 6 11 (.slice A7 (l.length + [p].length) c7) rfl rfl (by kernel_rfl) (by kernel_rfl) (by kernel_rfl) (fun _ _ _ h => h) (by rfl) (by intro w' _; go_simp; (try (with_reducible rfl))) (by assumption) ?_
              simp only [Act.put, List.setIfInBounds_toArray, List.set_cons_zero, List.set_cons_succ]
              refine wpAnyH_done (by kernel_rfl) ?_ _
              go_wp2_with fail
              go_meet
              exact ⟨A7, c7, by simp, by have h := HOW.out.mono HBd.out.size; simpa [List.length_append] using h, below_rV HBd.out HB.out⟩
          · go_simp
            have hrw := Rds.made (wd) encP [p] 25 #[.string p.id, .int .i64 p.prio, .bool p.crit, .int .i64 p.q0, .int .i64 p.q1, .int .i64 p.q2, .int .i64 p.l0, .int .i64 p.l1, .int .i64 p.l2, .string p.image, .int .i64 p.size] (0, 0) rfl
            have HRW := Lib.hid hrw
            clear hrw
            have HB := Lib.hid (HB.out.alloc HB.out.size (.cells #[.string p.id, .int .i64 p.prio, .bool p.crit, .int .i64 p.q0, .int .i64 p.q1, .int .i64 p.q2, .int .i64 p.l0, .int .i64 p.l1, .int .i64 p.l2, .string p.image, .int .i64 p.size] 25))
            have HQ := Lib.hid (HQd.out.below HB.out)
            refine hK _ _ HQ.out.pb.pd ?_
            have hHeld := HQ.out.pb.pd
            clear hK K
            simp only [Act.put, List.setIfInBounds_toArray, List.set_cons_zero, List.set_cons_succ]
            refine held_call 0 51 rfl rfl (by kernel_rfl) (by rfl) (fun K hK => ?_)
            go_simp
            have how := Own.made (wd.alloc (.cells #[.string p.id, .int .i64 p.prio, .bool p.crit, .int .i64 p.q0, .int .i64 p.q1, .int .i64 p.q2, .int .i64 p.l0, .int .i64 p.l1, .int .i64 p.l2, .string p.image, .int .i64 p.size] 25)) wd.heap.size 25 encP [] #[] rfl HB.out.size (by simp)
            rw [show (wd.alloc (.cells #[.string p.id, .int .i64 p.prio, .bool p.crit, .int .i64 p.q0, .int .i64 p.q1, .int .i64 p.q2, .int .i64 p.l0, .int .i64 p.l1, .int .i64 p.l2, .string p.image, .int .i64 p.size] 25)).heap.size = wd.heap.size + 1 from by simp] at how
            have HRW := Lib.hid (HRW.out.alloc (.cells #[] 25))
            have HOW := Lib.hid how
            clear how
            have HB := Lib.hid (HB.out.alloc HB.out.size (.cells #[] 25))
            have HQ := Lib.hid (HQd.out.below HB.out)
            refine hK _ _ HQ.out.pb.pd ?_
            have hHeld := HQ.out.pb.pd
            clear hK K
            simp only [Act.put, List.setIfInBounds_toArray, List.set_cons_zero, List.set_cons_succ]
            refine held_call 2 53 rfl rfl (by kernel_rfl) (by rfl) (fun K hK => ?_)
            refine wp_app ((wd.alloc (.cells #[.string p.id, .int .i64 p.prio, .bool p.crit, .int .i64 p.q0, .int .i64 p.q1, .int .i64 p.q2, .int .i64 p.l0, .int .i64 p.l1, .int .i64 p.l2, .string p.image, .int .i64 p.size] 25)).alloc (.cells #[] 25)) elemP encP (.tmp 51) (.tmp 52) rfl wd.heap.size _ [] (by simp [Act.eval]) HOW.out Al l cl (by simp [Act.eval]) (HRd.out.below (HB.out.mono (by simp))) (by simp; omega) (by simp; omega) HB.out.size ?_
            intro A5 c5 w5 ho hg _
            have hb5 := HOW.out.belowGrown HB.out hg (Nat.le_refl _) HB.out.size
            have HRW := Lib.hid (HRW.out.grownN hg (by simp [Value.ownBlock]))
            have how : Own w5 wd.heap.size 25 encP (.slice A5 l.length c5) l := by simpa using ho
            have HOW := Lib.hid how
            have HB := Lib.hid hb5
            have HQ := Lib.hid (HQd.out.below HB.out)
            clear ho how hg hb5
            simp only [List.length_nil, Nat.zero_add]
            refine hK _ _ HQ.out.pb.pd ?_
            have hHeld := HQ.out.pb.pd
            clear hK K
            simp only [Act.put, List.setIfInBounds_toArray, List.set_cons_zero, List.set_cons_succ]
            refine held_call 5 56 rfl rfl (by kernel_rfl) (by rfl) (fun K hK => ?_)
            refine wp_app (w5) elemP encP (.tmp 53) (.tmp 55) rfl wd.heap.size _ l (by simp [Act.eval]) HOW.out _ [p] 1 (by simp [Act.eval]) HRW.out (by simp; omega) (by simp; omega) HB.out.size ?_
            intro A7 c7 w7 ho hg _
            have hb7 := HOW.out.belowGrown HB.out hg (Nat.le_refl _) HB.out.size
            have HOW := Lib.hid ho
            have HB := Lib.hid hb7
            have HQ := Lib.hid (HQd.out.below HB.out)
            clear ho hg hb7
            refine hK _ _ HQ.out.pb.pd ?_
            have hHeld := HQ.out.pb.pd
            clear hK K
            simp only [Act.put, List.setIfInBounds_toArray, List.set_cons_zero, List.set_cons_succ]
            refine held_take 6 11 (.slice A7 (l.length + [p].length) c7) rfl rfl (by kernel_rfl) (by kernel_rfl) (by kernel_rfl) (fun _ _ _ h => h) (by rfl) (by intro w' _; go_simp; (try (with_reducible rfl))) (by assumption) ?_
            simp only [Act.put, List.setIfInBounds_toArray, List.set_cons_zero, List.set_cons_succ]
            refine wpAnyH_done (by kernel_rfl) ?_ _
            go_wp2_with fail
            go_meet
            exact ⟨A7, c7, by simp, by have h := HOW.out.mono HBd.out.size; simpa [List.length_append] using h, below_rV HBd.out HB.out⟩
        case rest =>
          obtain ⟨A7, c7, rfl, ho7, hb7⟩ := hcut
          have HQ := Lib.hid (HQ.out.below hb7)
          have HS := Lib.hid (HP.out.1.below hb7 (Nat.le_refl _)).toRds
          have HO := Lib.hid ho7.toRds
          clear ho7 hb7 HRL HRi HP
          have HW7 := Lib.hid (show ∀ x ∈ l ++ [p], x.Wf from fun x hx => by
            rcases List.mem_append.1 hx with h | h
            · exact HW.out x h
            · rw [List.mem_singleton.1 h]; exact HPW.out)
          have HWS := Lib.hid (show ∀ x ∈ stayD p l, x.Wf from fun x hx => by
            unfold stayD at hx
            rcases List.mem_cons.1 hx with rfl | hx
            · exact HPW.out
            · exact HW.out x (List.mem_filter.1 hx).1)
          have hl7 : (l ++ [p]).length ≤ 65 := by simp; omega
          have hls : (stayD p l).length ≤ 65 := by have := stayD_len p l; omega
          clear hsl
          generalize l ++ [p] = L7 at *
          generalize stayD p l = S at *
          have crm := HQ.out.rm.cell
          cases va
          · obtain rfl : vb = false := HN.out.1 rfl
            go_wp2_with fail
            refine (fitsV HVA.out HS.out HWS.out (by omega)).mono ?_; rintro e w7 ⟨rfl, hb⟩
            have HQ := Lib.hid (HQ.out.below hb)
            have HO := Lib.hid (HO.out.below hb)
            clear hb crm
            have crm := HQ.out.rm.cell
            go_wp2_with fail
            refine (fitsV HVB.out HO.out HW7.out (by omega)).mono ?_; rintro e w8 ⟨rfl, hb⟩
            have HQ := Lib.hid (HQ.out.below hb)
            clear hb crm
            go_wp2_with fail
            go_ret
            exact ⟨rfl, HQ.out.bel⟩
          · by_cases hn0 : n = 0
            · subst hn0
              obtain rfl : vb = true := (HN.out.2 rfl).1 rfl
              go_wp2_with fail
              refine (fitsV HVA.out HS.out HWS.out (by omega)).mono ?_; rintro e w7 ⟨rfl, hb⟩
              have HQ := Lib.hid (HQ.out.below hb)
              have HO := Lib.hid (HO.out.below hb)
              clear hb crm
              have crm := HQ.out.rm.cell
              go_wp2_with fail
              refine (fitsV HVB.out HO.out HW7.out (by omega)).mono ?_; rintro e w8 ⟨rfl, hb⟩
              have HQ := Lib.hid (HQ.out.below hb)
              clear hb crm
              go_wp2_with fail
              go_ret
              exact ⟨rfl, HQ.out.bel⟩
            · obtain rfl : vb = false := by
                cases vb
                · rfl
                · exact absurd ((HN.out.2 rfl).2 rfl) hn0
              have dn : ((n : Int) == 0) = false := by simp; omega
              clear hn0
              go_wp2_with fail
              refine (fitsV HVA.out HS.out HWS.out (by omega)).mono ?_; rintro e w7 ⟨rfl, hb⟩
              have HQ := Lib.hid (HQ.out.below hb)
              have HO := Lib.hid (HO.out.below hb)
              clear hb crm
              have crm := HQ.out.rm.cell
              go_wp2_with fail
              refine (fitsV HVB.out HO.out HW7.out (by omega)).mono ?_; rintro e w8 ⟨rfl, hb⟩
              have HQ := Lib.hid (HQ.out.below hb)
              clear hb crm
              go_wp2_with fail
              go_ret
              exact ⟨rfl, HQ.out.bel⟩
end Go.Proofs.Ytabbkembpghfdaa
