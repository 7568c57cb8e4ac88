/- bilgelaw21.VictimNobody: for a pod that isn't critical, or that is less important than all, nobody goes. -/
import Derived.Test.YtabbkembpghfdaaVFit
namespace Go.Proofs.Ytabbkembpghfdaa
open Go.RowKit

theorem Rds.grownN {α : Type} {size : Nat} {E : Enc α size} {w w' : World} {row : Option Nat} {N : Nat} {l : List α} (h : Rds w E (some ⟨N, 0, none⟩) l) (hg : w.grownBy w' row) (hne : some N ≠ row) : Rds w' E (some ⟨N, 0, none⟩) l := fun hn => by
  obtain ⟨b, off, e, hb, hc⟩ := h hn
  injection e with e
  injection e with e1 e2
  subst e1
  subst e2
  exact ⟨N, 0, rfl, Nat.lt_of_lt_of_le hb hg.size, fun j u hu => (World.cell?_of_block (w := w) (hg.block N hb hne)).trans (hc j u hu)⟩
theorem Own.setLow {α : Type} {size : Nat} {E : Enc α size} {w : World} {base : Nat} {e : TypeId} {v : Value} {l : List α} (h : Own w base e E v l) {g : Nat} (hg : g < base) (i : Nat) (u : Value) : Own (w.setCell ⟨g, i, none⟩ u) base e E v l :=
  h.grown (grownBy_setCell w g i u) (.inr fun e => by have := (h.block_lt g e).1; omega)
theorem CQ.alloc {room : S3} {p : Pd} {w W : World} (h : CQ room p w W) (o : Obj) : CQ room p w (W.alloc o) := ⟨h.rm.alloc o, h.pb.alloc o, h.bel.alloc h.bel.size o⟩
theorem CQ.drew {room : S3} {p : Pd} {w W : World} (h : CQ room p w W) : CQ room p w W.drew := ⟨h.rm.drew, h.pb.drew, h.bel.drew⟩
theorem CQ.crit {room : S3} {p : Pd} {w W : World} (h : CQ room p w W) (b : Bool) : CQ room { p with crit := b } w (W.setCell ⟨w.heap.size + 1, 2, none⟩ (.bool b)) :=
  ⟨h.rm.far (by show w.heap.size ≠ w.heap.size + 1; omega) _, h.pb.set_ 2 _, h.bel.setCell (by show w.heap.size ≤ w.heap.size + 1; omega) _⟩
theorem CQ.prio {room : S3} {p : Pd} {w W : World} (h : CQ room p w W) (k : Int) : CQ room { p with prio := k } w (W.setCell ⟨w.heap.size + 1, 1, none⟩ (.int .i64 k)) :=
  ⟨h.rm.far (by show w.heap.size ≠ w.heap.size + 1; omega) _, h.pb.set_ 1 _, h.bel.setCell (by show w.heap.size ≤ w.heap.size + 1; omega) _⟩
theorem CQ.critEx {room : S3} {p : Pd} {w W : World} (h : CQ room p w W) (b : Bool) {base : Nat} {v : Value} {L : List Pd} (ho : Own W base 25 encP v L) (hl : w.heap.size + 1 < base) :
    ∃ v1, W.setCell ⟨w.heap.size + 1, 2, none⟩ (.bool b) = v1 ∧ CQ room { p with crit := b } w v1 ∧ Own v1 base 25 encP v L := ⟨_, rfl, h.crit b, ho.setLow hl 2 _⟩
theorem CQ.prioEx {room : S3} {p : Pd} {w W : World} (h : CQ room p w W) (k : Int) {base : Nat} {v : Value} {L : List Pd} (ho : Own W base 25 encP v L) (hl : w.heap.size + 1 < base) :
    ∃ v1, W.setCell ⟨w.heap.size + 1, 1, none⟩ (.int .i64 k) = v1 ∧ CQ room { p with prio := k } w v1 ∧ Own v1 base 25 encP v L := ⟨_, rfl, h.prio k, ho.setLow hl 1 _⟩
/-- nobody may go for it: nobody goes -/
theorem chooseNone {room : S3} {p : Pd} {l : List Pd} {v : Bool} (hm : ∀ x ∈ l, mayV p x = false) (hv : fitsB room (p :: l) = v) (A : Option Addr) (c : Nat) (w : World) (hr : Rds w encP A l) (hn : l.length ≤ 50000) (hwf : ∀ x ∈ l, x.Wf) (hp : p.Wf) :
    Calls Try.prog 16 #[.agg #[.int .i64 room.a, .int .i64 room.b, .int .i64 room.c], .slice A l.length c, .agg p.cells] w fun e w' => ∃ (A : Option Addr) (c : Nat), e = .returned (.tuple #[.slice A 0 c, .bool v]) ∧ Below w.heap.size w w' := by
  have hs : stayD p l = p :: l := by
    unfold stayD
    rw [List.filter_eq_self.2 fun x hx => by rw [hm x hx]; rfl]
  have ha : askD p l = [] := List.filter_eq_nil_iff.2 fun x hx => by rw [hm x hx]; simp
  refine (choose_any room p l A c w hr hn hwf hp).mono ?_
  rintro e w' ⟨K, hk, _, h⟩
  rw [ha, List.perm_nil] at hk
  subst hk
  rw [hs] at h
  rcases h with ⟨hf, rfl, hb⟩ | ⟨hf, O, A, c, hpo, _, rfl, _, hb⟩
  · rw [hf] at hv
    subst hv
    exact ⟨none, 0, rfl, hb⟩
  · rw [hf] at hv
    subst hv
    have hO : O = [] := by simpa [chooseD] using hpo
    subst hO
    exact ⟨A, c, rfl, hb⟩
theorem right_prio {p : Pd} (h : p.right = true) : -1073741824 ≤ p.prio := by
  unfold Pd.right Pd.rest at h
  simp only [Bool.and_eq_true, decide_eq_true_eq] at h
  exact h.2.2.2.1
set_option maxRecDepth 100000 in
set_option maxHeartbeats 16000000 in
theorem victimNobody_any (room : S3) (l : List Pd) (p : Pd) (Al : Option Addr) (cl : Nat) (w : World) (hr : Rds w encP Al l) (hw : ∀ x ∈ l, x.Wf) (hm : l.length ≤ 9223372036854775807) (hp : p.Wf) :
    Calls Try.prog 7 #[.agg #[.int .i64 room.a, .int .i64 room.b, .int .i64 room.c], .slice Al l.length cl, .agg p.cells] w fun e w' => e = .returned (.bool true) ∧ Below w.heap.size w w' := by
  have mixed : Try.prog.follows Departure.mixedOrders = true := by kernel_rfl
  have HQ := Lib.hid (CQ.new room p w)
  have HR := Lib.hid hr
  have HW := Lib.hid hw
  have HPW := Lib.hid hp
  clear hr hw hp
  go_enter Try.func7, Try.ntmps7
  go_wp2_with fail
  refine (awake21_any _).mono ?_; rintro e w1 ⟨rfl, hb⟩
  have HQ := Lib.hid (HQ.out.below hb)
  clear hb
  have crm := HQ.out.rm.cell
  have cp := HQ.out.pb.cell
  by_cases hf : FitV room l p
  rotate_left
  · go_wp2_with fail
    refine (refFitV_any (v := false) (room := room) (p := p) (by simp [hf]) Al cl _ (HR.out.below HQ.out.bel) HW.out HPW.out hm).mono ?_; rintro e w2 ⟨rfl, hb⟩
    have HQ := Lib.hid (HQ.out.below hb)
    clear hb crm cp hf
    go_wp2_with fail
    refine (awake21_any _).mono ?_; rintro e w3 ⟨rfl, hb⟩
    have HQ := Lib.hid (HQ.out.below hb)
    clear hb
    go_wp2_with fail
    go_ret
    exact ⟨rfl, HQ.out.bel⟩
  · have HF := Lib.hid hf
    go_wp2_with fail
    refine (refFitV_any (v := true) (room := room) (p := p) (by simp [hf]) Al cl _ (HR.out.below HQ.out.bel) HW.out HPW.out hm).mono ?_; rintro e w1 ⟨rfl, hb⟩
    have HQ := Lib.hid (HQ.out.below hb)
    have HRL := Lib.hid (HR.out.below HQ.out.bel)
    have hl := hf.len
    clear hb crm cp hf
    go_wp2_with fail
    go_cut [7] (fun v W => ∃ A7 c7, v = .slice A7 (l ++ [p]).length c7 ∧ Own W w1.heap.size 25 encP (.slice A7 (l ++ [p]).length c7) (l ++ [p]) ∧ Below w1.heap.size w1 W)
    case first =>
      have HQd := Lib.hid HQ.out.drew
      have HRd := Lib.hid HRL.out.drew
      have hbd : Below w1.heap.size w1 w1.drew := (Below.refl _ _).drew
      have HBd := Lib.hid hbd
      clear hbd
      refine wp_region_held_drew (S := (fun w' => w'.cell? ⟨w.heap.size + 1, 0, none⟩ = some (.string p.id) ∧ w'.cell? ⟨w.heap.size + 1, 1, none⟩ = some (.int .i64 p.prio) ∧ w'.cell? ⟨w.heap.size + 1, 2, none⟩ = some (.bool p.crit) ∧ w'.cell? ⟨w.heap.size + 1, 3, none⟩ = some (.int .i64 p.q0) ∧ w'.cell? ⟨w.heap.size + 1, 4, none⟩ = some (.int .i64 p.q1) ∧ w'.cell? ⟨w.heap.size + 1, 5, none⟩ = some (.int .i64 p.q2) ∧ w'.cell? ⟨w.heap.size + 1, 6, none⟩ = some (.int .i64 p.l0) ∧ w'.cell? ⟨w.heap.size + 1, 7, none⟩ = some (.int .i64 p.l1) ∧ w'.cell? ⟨w.heap.size + 1, 8, none⟩ = some (.int .i64 p.l2) ∧ w'.cell? ⟨w.heap.size + 1, 9, none⟩ = some (.string p.image) ∧ w'.cell? ⟨w.heap.size + 1, 10, none⟩ = some (.int .i64 p.size))) (by kernel_rfl) (HQd.out.pb.pd) (fun hHeld => ?_)
      generalize w1.drew = wd at *
      have hb0 : Below wd.heap.size wd wd := Below.refl _ _
      have HB := Lib.hid hb0
      clear hb0
      refine held_take 1 23 (.slice Al l.length cl) rfl rfl (by kernel_rfl) (by kernel_rfl) (by kernel_rfl) (fun _ _ _ h => h) (by rfl) (by intro w' hSw; (try dsimp only at hSw); go_simp; (try (with_reducible rfl))) (by assumption) ?_
      simp only [Act.put, List.setIfInBounds_toArray, List.set_cons_zero, List.set_cons_succ]
      refine held_take 3 25 (.agg #[.string p.id, .int .i64 p.prio, .bool p.crit, .int .i64 p.q0, .int .i64 p.q1, .int .i64 p.q2, .int .i64 p.l0, .int .i64 p.l1, .int .i64 p.l2, .string p.image, .int .i64 p.size]) rfl rfl (by kernel_rfl) (by kernel_rfl) (by kernel_rfl) (fun _ _ _ h => h) (by rfl) (by intro w' hSw; (try dsimp only at hSw); go_simp; (try (with_reducible rfl))) (by assumption) ?_
      simp only [Act.put, List.setIfInBounds_toArray, List.set_cons_zero, List.set_cons_succ]
      refine held_twoD 0 4 22 26 rfl rfl rfl rfl (by kernel_rfl) (by rfl) (by rfl) (fun K hK => ?_) (fun K hK => ?_)
      · go_simp
        have how := Own.made (wd) wd.heap.size 25 encP [] #[] rfl HB.out.size (by simp)
        have HOW := Lib.hid how
        clear how
        have HB := Lib.hid (HB.out.alloc HB.out.size (.cells #[] 25))
        have HQ := Lib.hid (HQd.out.below HB.out)
        refine hK _ _ HQ.out.pb.pd ?_
        have hHeld := HQ.out.pb.pd
        clear hK K
        simp only [Act.put, List.setIfInBounds_toArray, List.set_cons_zero, List.set_cons_succ]
        refine held_twoD 2 4 24 26 rfl rfl rfl rfl (by kernel_rfl) (by rfl) (by rfl) (fun K hK => ?_) (fun K hK => ?_)
        · refine wp_app (wd.alloc (.cells #[] 25)) elemP encP (.tmp 22) (.tmp 23) rfl wd.heap.size _ [] (by simp [Act.eval]) HOW.out Al l cl (by simp [Act.eval]) (HRd.out.below (HB.out.mono (by simp))) (by simp; omega) (by simp; omega) HB.out.size ?_
          intro A5 c5 w5 ho hg _
          have hb5 := HOW.out.belowGrown HB.out hg (Nat.le_refl _) HB.out.size
          have how : Own w5 wd.heap.size 25 encP (.slice A5 l.length c5) l := by simpa using ho
          have HOW := Lib.hid how
          have HB := Lib.hid hb5
          have HQ := Lib.hid (HQd.out.below HB.out)
          clear ho how hg hb5
          simp only [List.length_nil, Nat.zero_add]
          refine hK _ _ HQ.out.pb.pd ?_
          have hHeld := HQ.out.pb.pd
          clear hK K
          simp only [Act.put, List.setIfInBounds_toArray, List.set_cons_zero, List.set_cons_succ]
          refine held_call 4 26 rfl rfl (by kernel_rfl) (by rfl) (fun K hK => ?_)
          go_simp
          have hrw := Rds.made (w5) encP [p] 25 #[.string p.id, .int .i64 p.prio, .bool p.crit, .int .i64 p.q0, .int .i64 p.q1, .int .i64 p.q2, .int .i64 p.l0, .int .i64 p.l1, .int .i64 p.l2, .string p.image, .int .i64 p.size] (0, 0) rfl
          have HOW := Lib.hid (HOW.out.alloc (.cells #[.string p.id, .int .i64 p.prio, .bool p.crit, .int .i64 p.q0, .int .i64 p.q1, .int .i64 p.q2, .int .i64 p.l0, .int .i64 p.l1, .int .i64 p.l2, .string p.image, .int .i64 p.size] 25))
          have HRW := Lib.hid hrw
          clear hrw
          have HB := Lib.hid (HB.out.alloc HB.out.size (.cells #[.string p.id, .int .i64 p.prio, .bool p.crit, .int .i64 p.q0, .int .i64 p.q1, .int .i64 p.q2, .int .i64 p.l0, .int .i64 p.l1, .int .i64 p.l2, .string p.image, .int .i64 p.size] 25))
          have HQ := Lib.hid (HQd.out.below HB.out)
          refine hK _ _ HQ.out.pb.pd ?_
          have hHeld := HQ.out.pb.pd
          clear hK K
          simp only [Act.put, List.setIfInBounds_toArray, List.set_cons_zero, List.set_cons_succ]
          refine held_call 5 27 rfl rfl (by kernel_rfl) (by rfl) (fun K hK => ?_)
          refine wp_app (w5.alloc (.cells #[.string p.id, .int .i64 p.prio, .bool p.crit, .int .i64 p.q0, .int .i64 p.q1, .int .i64 p.q2, .int .i64 p.l0, .int .i64 p.l1, .int .i64 p.l2, .string p.image, .int .i64 p.size] 25)) elemP encP (.tmp 24) (.tmp 26) rfl wd.heap.size _ l (by simp [Act.eval]) HOW.out _ [p] 1 (by simp [Act.eval]) HRW.out (by simp; omega) (by simp; omega) HB.out.size ?_
          intro A7 c7 w7 ho hg _
          have hb7 := HOW.out.belowGrown HB.out hg (Nat.le_refl _) HB.out.size
          have HOW := Lib.hid ho
          have HB := Lib.hid hb7
          have HQ := Lib.hid (HQd.out.below HB.out)
          clear ho hg hb7
          refine hK _ _ HQ.out.pb.pd ?_
          have hHeld := HQ.out.pb.pd
          clear hK K
          simp only [Act.put, List.setIfInBounds_toArray, List.set_cons_zero, List.set_cons_succ]
          refine held_take 6 7 (.slice A7 (l.length + [p].length) c7) rfl rfl (by kernel_rfl) (by kernel_rfl) (by kernel_rfl) (fun _ _ _ h => h) (by rfl) (by intro w' _; go_simp; (try (with_reducible rfl))) (by assumption) ?_
          simp only [Act.put, List.setIfInBounds_toArray, List.set_cons_zero, List.set_cons_succ]
          refine wpAnyH_done (by kernel_rfl) ?_ _
          go_wp2_with fail
          go_meet
          exact ⟨A7, c7, by simp, by have h := HOW.out.mono HBd.out.size; simpa [List.length_append] using h, below_rV HBd.out HB.out⟩
        · go_simp
          have hrw := Rds.made (wd.alloc (.cells #[] 25)) encP [p] 25 #[.string p.id, .int .i64 p.prio, .bool p.crit, .int .i64 p.q0, .int .i64 p.q1, .int .i64 p.q2, .int .i64 p.l0, .int .i64 p.l1, .int .i64 p.l2, .string p.image, .int .i64 p.size] (0, 0) rfl
          rw [show (wd.alloc (.cells #[] 25)).heap.size = wd.heap.size + 1 from by simp] at hrw
          have HOW := Lib.hid (HOW.out.alloc (.cells #[.string p.id, .int .i64 p.prio, .bool p.crit, .int .i64 p.q0, .int .i64 p.q1, .int .i64 p.q2, .int .i64 p.l0, .int .i64 p.l1, .int .i64 p.l2, .string p.image, .int .i64 p.size] 25))
          have HRW := Lib.hid hrw
          clear hrw
          have HB := Lib.hid (HB.out.alloc HB.out.size (.cells #[.string p.id, .int .i64 p.prio, .bool p.crit, .int .i64 p.q0, .int .i64 p.q1, .int .i64 p.q2, .int .i64 p.l0, .int .i64 p.l1, .int .i64 p.l2, .string p.image, .int .i64 p.size] 25))
          have HQ := Lib.hid (HQd.out.below HB.out)
          refine hK _ _ HQ.out.pb.pd ?_
          have hHeld := HQ.out.pb.pd
          clear hK K
          simp only [Act.put, List.setIfInBounds_toArray, List.set_cons_zero, List.set_cons_succ]
          refine held_call 2 24 rfl rfl (by kernel_rfl) (by rfl) (fun K hK => ?_)
          refine wp_app ((wd.alloc (.cells #[] 25)).alloc (.cells #[.string p.id, .int .i64 p.prio, .bool p.crit, .int .i64 p.q0, .int .i64 p.q1, .int .i64 p.q2, .int .i64 p.l0, .int .i64 p.l1, .int .i64 p.l2, .string p.image, .int .i64 p.size] 25)) elemP encP (.tmp 22) (.tmp 23) rfl wd.heap.size _ [] (by simp [Act.eval]) HOW.out Al l cl (by simp [Act.eval]) (HRd.out.below (HB.out.mono (by simp))) (by simp; omega) (by simp; omega) HB.out.size ?_
          intro A5 c5 w5 ho hg _
          have hb5 := HOW.out.belowGrown HB.out hg (Nat.le_refl _) HB.out.size
          have HRW := Lib.hid (HRW.out.grownN hg (by simp [Value.ownBlock]))
          have how : Own w5 wd.heap.size 25 encP (.slice A5 l.length c5) l := by simpa using ho
          have HOW := Lib.hid how
          have HB := Lib.hid hb5
          have HQ := Lib.hid (HQd.out.below HB.out)
          clear ho how hg hb5
          simp only [List.length_nil, Nat.zero_add]
          refine hK _ _ HQ.out.pb.pd ?_
          have hHeld := HQ.out.pb.pd
          clear hK K
          simp only [Act.put, List.setIfInBounds_toArray, List.set_cons_zero, List.set_cons_succ]
          refine held_call 5 27 rfl rfl (by kernel_rfl) (by rfl) (fun K hK => ?_)
          refine wp_app (w5) elemP encP (.tmp 24) (.tmp 26) rfl wd.heap.size _ l (by simp [Act.eval]) HOW.out _ [p] 1 (by simp [Act.eval]) HRW.out (by simp; omega) (by simp; omega) HB.out.size ?_
          intro A7 c7 w7 ho hg _
          have hb7 := HOW.out.belowGrown HB.out hg (Nat.le_refl _) HB.out.size
          have HOW := Lib.hid ho
          have HB := Lib.hid hb7
          have HQ := Lib.hid (HQd.out.below HB.out)
          clear ho hg hb7
          refine hK _ _ HQ.out.pb.pd ?_
          have hHeld := HQ.out.pb.pd
          clear hK K
          simp only [Act.put, List.setIfInBounds_toArray, List.set_cons_zero, List.set_cons_succ]
          refine held_take 6 7 (.slice A7 (l.length + [p].length) c7) rfl rfl (by kernel_rfl) (by kernel_rfl) (by kernel_rfl) (fun _ _ _ h => h) (by rfl) (by intro w' _; go_simp; (try (with_reducible rfl))) (by assumption) ?_
          simp only [Act.put, List.setIfInBounds_toArray, List.set_cons_zero, List.set_cons_succ]
          refine wpAnyH_done (by kernel_rfl) ?_ _
          go_wp2_with fail
          go_meet
          exact ⟨A7, c7, by simp, by have h := HOW.out.mono HBd.out.size; simpa [List.length_append] using h, below_rV HBd.out HB.out⟩
      · go_simp
        have hrw := Rds.made (wd) encP [p] 25 #[.string p.id, .int .i64 p.prio, .bool p.crit, .int .i64 p.q0, .int .i64 p.q1, .int .i64 p.q2, .int .i64 p.l0, .int .i64 p.l1, .int .i64 p.l2, .string p.image, .int .i64 p.size] (0, 0) rfl
        have HRW := Lib.hid hrw
        clear hrw
        have HB := Lib.hid (HB.out.alloc HB.out.size (.cells #[.string p.id, .int .i64 p.prio, .bool p.crit, .int .i64 p.q0, .int .i64 p.q1, .int .i64 p.q2, .int .i64 p.l0, .int .i64 p.l1, .int .i64 p.l2, .string p.image, .int .i64 p.size] 25))
        have HQ := Lib.hid (HQd.out.below HB.out)
        refine hK _ _ HQ.out.pb.pd ?_
        have hHeld := HQ.out.pb.pd
        clear hK K
        simp only [Act.put, List.setIfInBounds_toArray, List.set_cons_zero, List.set_cons_succ]
        refine held_call 0 22 rfl rfl (by kernel_rfl) (by rfl) (fun K hK => ?_)
        go_simp
        have how := Own.made (wd.alloc (.cells #[.string p.id, .int .i64 p.prio, .bool p.crit, .int .i64 p.q0, .int .i64 p.q1, .int .i64 p.q2, .int .i64 p.l0, .int .i64 p.l1, .int .i64 p.l2, .string p.image, .int .i64 p.size] 25)) wd.heap.size 25 encP [] #[] rfl HB.out.size (by simp)
        rw [show (wd.alloc (.cells #[.string p.id, .int .i64 p.prio, .bool p.crit, .int .i64 p.q0, .int .i64 p.q1, .int .i64 p.q2, .int .i64 p.l0, .int .i64 p.l1, .int .i64 p.l2, .string p.image, .int .i64 p.size] 25)).heap.size = wd.heap.size + 1 from by simp] at how
        have HRW := Lib.hid (HRW.out.alloc (.cells #[] 25))
        have HOW := Lib.hid how
        clear how
        have HB := Lib.hid (HB.out.alloc HB.out.size (.cells #[] 25))
        have HQ := Lib.hid (HQd.out.below HB.out)
        refine hK _ _ HQ.out.pb.pd ?_
        have hHeld := HQ.out.pb.pd
        clear hK K
        simp only [Act.put, List.setIfInBounds_toArray, List.set_cons_zero, List.set_cons_succ]
        refine held_call 2 24 rfl rfl (by kernel_rfl) (by rfl) (fun K hK => ?_)
        refine wp_app ((wd.alloc (.cells #[.string p.id, .int .i64 p.prio, .bool p.crit, .int .i64 p.q0, .int .i64 p.q1, .int .i64 p.q2, .int .i64 p.l0, .int .i64 p.l1, .int .i64 p.l2, .string p.image, .int .i64 p.size] 25)).alloc (.cells #[] 25)) elemP encP (.tmp 22) (.tmp 23) rfl wd.heap.size _ [] (by simp [Act.eval]) HOW.out Al l cl (by simp [Act.eval]) (HRd.out.below (HB.out.mono (by simp))) (by simp; omega) (by simp; omega) HB.out.size ?_
        intro A5 c5 w5 ho hg _
        have hb5 := HOW.out.belowGrown HB.out hg (Nat.le_refl _) HB.out.size
        have HRW := Lib.hid (HRW.out.grownN hg (by simp [Value.ownBlock]))
        have how : Own w5 wd.heap.size 25 encP (.slice A5 l.length c5) l := by simpa using ho
        have HOW := Lib.hid how
        have HB := Lib.hid hb5
        have HQ := Lib.hid (HQd.out.below HB.out)
        clear ho how hg hb5
        simp only [List.length_nil, Nat.zero_add]
        refine hK _ _ HQ.out.pb.pd ?_
        have hHeld := HQ.out.pb.pd
        clear hK K
        simp only [Act.put, List.setIfInBounds_toArray, List.set_cons_zero, List.set_cons_succ]
        refine held_call 5 27 rfl rfl (by kernel_rfl) (by rfl) (fun K hK => ?_)
        refine wp_app (w5) elemP encP (.tmp 24) (.tmp 26) rfl wd.heap.size _ l (by simp [Act.eval]) HOW.out _ [p] 1 (by simp [Act.eval]) HRW.out (by simp; omega) (by simp; omega) HB.out.size ?_
        intro A7 c7 w7 ho hg _
        have hb7 := HOW.out.belowGrown HB.out hg (Nat.le_refl _) HB.out.size
        have HOW := Lib.hid ho
        have HB := Lib.hid hb7
        have HQ := Lib.hid (HQd.out.below HB.out)
        clear ho hg hb7
        refine hK _ _ HQ.out.pb.pd ?_
        have hHeld := HQ.out.pb.pd
        clear hK K
        simp only [Act.put, List.setIfInBounds_toArray, List.set_cons_zero, List.set_cons_succ]
        refine held_take 6 7 (.slice A7 (l.length + [p].length) c7) rfl rfl (by kernel_rfl) (by kernel_rfl) (by kernel_rfl) (fun _ _ _ h => h) (by rfl) (by intro w' _; go_simp; (try (with_reducible rfl))) (by assumption) ?_
        simp only [Act.put, List.setIfInBounds_toArray, List.set_cons_zero, List.set_cons_succ]
        refine wpAnyH_done (by kernel_rfl) ?_ _
        go_wp2_with fail
        go_meet
        exact ⟨A7, c7, by simp, by have h := HOW.out.mono HBd.out.size; simpa [List.length_append] using h, below_rV HBd.out HB.out⟩
    case rest =>
      obtain ⟨A7, c7, rfl, ho7, hb7⟩ := hcut
      have HQ1 := HQ
      have HQ := Lib.hid (HQ.out.below hb7)
      have HO := Lib.hid ho7
      have HLO : Hid (w.heap.size + 1 < w1.heap.size) := HQ1.out.pb.lt
      clear ho7 hb7 HQ1 HRL
      have HFL : Hid (fitsB room (l ++ [p]) = fitsB room (p :: l)) := by
        show _ = _
        unfold fitsB
        rw [sumsOf_perm (List.perm_append_comm (l₁ := l) (l₂ := [p]))]
        rfl
      obtain ⟨v, hv⟩ : ∃ v, fitsB room (p :: l) = v := ⟨_, rfl⟩
      have HV := Lib.hid hv
      have HF7 : Hid (fitsB room (l ++ [p]) = v) := HFL.out.trans hv
      have HW7 := Lib.hid (show ∀ x ∈ l ++ [p], x.Wf from fun x hx => by
        rcases List.mem_append.1 hx with h | h
        · exact HW.out x h
        · rw [List.mem_singleton.1 h]; exact HPW.out)
      have hl7 : (l ++ [p]).length ≤ 65 := by simp; omega
      have HRI := Lib.hid (show ∀ x ∈ l, -1073741824 ≤ x.prio from fun x hx => by
        obtain ⟨i, hi, rfl⟩ := List.getElem_of_mem hx
        exact right_prio (HF.out.ok i hi hi).r)
      clear hv HFL HF
      generalize l ++ [p] = L7 at *
      obtain ⟨v1, hv1, hq1, ho1⟩ := HQ.out.critEx false HO.out HLO.out
      have cp := HQ.out.pb.cell
      have fp := HQ.out.pb.frozen
      have HQ := Lib.hid hq1
      have HO := Lib.hid ho1
      clear hq1 ho1
      have cp1 := HQ.out.pb.cell
      have crm := HQ.out.rm.cell
      go_wp2_with fail
      refine (chooseNone (room := room) (p := { p with crit := false }) (l := l) (v := v) (fun x _ => rfl) HV.out Al cl v1 (HR.out.below HQ.out.bel) (by omega) HW.out ⟨HPW.out.prio, HPW.out.q0, HPW.out.q1, HPW.out.q2, HPW.out.l0, HPW.out.l1, HPW.out.l2, HPW.out.size, HPW.out.id, HPW.out.image⟩).mono ?_; rintro e w8 ⟨Ax, cx, rfl, hb⟩
      have HQ := Lib.hid (HQ.out.below hb)
      have HO := Lib.hid (HO.out.below hb (Nat.le_refl _))
      clear hb cp fp cp1 crm hv1
      obtain ⟨v2, hv2, hq2, ho2⟩ := HQ.out.critEx true HO.out HLO.out
      have cp := HQ.out.pb.cell
      have fp := HQ.out.pb.frozen
      have HQ := Lib.hid hq2
      have HO := Lib.hid ho2
      clear hq2 ho2
      obtain ⟨v3, hv3, hq3, ho3⟩ := HQ.out.prioEx (-1073741824) HO.out HLO.out
      have cp2 := HQ.out.pb.cell
      have fp2 := HQ.out.pb.frozen
      have HQ := Lib.hid hq3
      have HO := Lib.hid ho3
      clear hq3 ho3
      have cp3 := HQ.out.pb.cell
      have crm := HQ.out.rm.cell
      go_wp2_with fail
      refine (chooseNone (room := room) (p := { p with crit := true, prio := -1073741824 }) (l := l) (v := v) (fun x hx => by have := HRI.out x hx; unfold mayV; simp; intro _; omega) HV.out Al cl v3 (HR.out.below HQ.out.bel) (by omega) HW.out ⟨(show I64 (-1073741824) from by constructor <;> decide), HPW.out.q0, HPW.out.q1, HPW.out.q2, HPW.out.l0, HPW.out.l1, HPW.out.l2, HPW.out.size, HPW.out.id, HPW.out.image⟩).mono ?_; rintro e w9 ⟨Ay, cy, rfl, hb⟩
      have HQ := Lib.hid (HQ.out.below hb)
      have HO := Lib.hid (HO.out.below hb (Nat.le_refl _))
      clear hb cp fp cp2 fp2 cp3 crm hv2 hv3
      have crm := HQ.out.rm.cell
      go_wp2_with fail
      refine (fitsV HF7.out HO.out.toRds HW7.out (by omega)).mono ?_; rintro e w10 ⟨rfl, hb⟩
      have HQ := Lib.hid (HQ.out.below hb)
      clear hb crm
      cases v
      all_goals
        go_wp2_with fail
        go_ret
        exact ⟨rfl, HQ.out.bel⟩
end Go.Proofs.Ytabbkembpghfdaa
