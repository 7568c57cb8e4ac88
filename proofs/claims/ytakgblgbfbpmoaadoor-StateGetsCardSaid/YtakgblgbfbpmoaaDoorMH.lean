/- Several texts in one: States as data; state.right, state.Right, bilgeref24.Right. -/
import Derived.Test.YtakgblgbfbpmoaaDoorMF
import Derived.Test.YtakgblgbfbpmoaaDoorMG
import Derived.Test.YtakgblgbfbpmoaaDoorMC
namespace Go.Proofs.YtakgblgbfbpmoaaDoor
open Go.RowKit

def rightE (e : En) : Bool := e.pod.right && (decide (1 ≤ e.phase) && decide (e.phase ≤ 3))
structure OkS (l : List En) (i : Nat) (hi : i < l.length) : Prop where
  r : rightE l[i] = true
  s : ∀ j (hj : j + 1 = i), blt (l[j]'(by omega)).pod.id l[i].pod.id = true
def OkSTo (l : List En) (k : Nat) : Prop := ∀ i (hi : i < l.length), i < k → OkS l i hi
structure RightS (rd : Int) (l : List En) : Prop where
  lo : 0 ≤ rd
  hi : rd ≤ 1099511627776
  len : l.length ≤ 64
  ok : OkSTo l l.length
theorem OkSTo.snoc {l : List En} {k : Nat} (hk : k < l.length) (h : OkSTo l k) (a : OkS l k hk) : OkSTo l (k + 1) := fun i hi h2 => by
  rcases Nat.lt_or_ge i k with h3 | h3
  · exact h i hi h3
  · obtain rfl : i = k := by omega
    exact a
theorem RightS.no {rd : Int} {l : List En} {v : Bool} (hv : v = true ↔ RightS rd l) (h : ¬ RightS rd l) : v = false := by
  cases v
  · rfl
  · exact absurd (hv.1 rfl) h
set_option maxRecDepth 100000 in
theorem rightE_any {e : En} {v : Bool} (hv : rightE e = v) (w : World) (hp : e.pod.Wf) :
    Calls Tryd.prog 34 #[.agg #[.string e.pod.id, .int .i64 e.pod.prio, .bool e.pod.crit, .int .i64 e.pod.q0, .int .i64 e.pod.q1, .int .i64 e.pod.q2, .int .i64 e.pod.l0, .int .i64 e.pod.l1, .int .i64 e.pod.l2, .string e.pod.image, .int .i64 e.pod.size, .int .i64 e.phase]] w fun x w' => x = .returned (.bool v) ∧ Below w.heap.size w w' := by
  subst hv
  have HE := Lib.hid (Blk.new w 46 #[.string e.pod.id, .int .i64 e.pod.prio, .bool e.pod.crit, .int .i64 e.pod.q0, .int .i64 e.pod.q1, .int .i64 e.pod.q2, .int .i64 e.pod.l0, .int .i64 e.pod.l1, .int .i64 e.pod.l2, .string e.pod.image, .int .i64 e.pod.size, .int .i64 e.phase])
  have HB := Lib.hid ((Below.refl w.heap.size w).alloc (Nat.le_refl _) (.cells #[.string e.pod.id, .int .i64 e.pod.prio, .bool e.pod.crit, .int .i64 e.pod.q0, .int .i64 e.pod.q1, .int .i64 e.pod.q2, .int .i64 e.pod.l0, .int .i64 e.pod.l1, .int .i64 e.pod.l2, .string e.pod.image, .int .i64 e.pod.size, .int .i64 e.phase] 46))
  obtain ⟨v1, hv1⟩ : ∃ v, e.pod.right = v := ⟨_, rfl⟩
  have H1 := Lib.hid hv1
  have HP := Lib.hid hp
  clear hv1 hp
  go_enter Tryd.func34, Tryd.ntmps34
  have ce := HE.out.cell
  go_wp2_with fail
  refine (rightPV H1.out _ HP.out).mono ?_; rintro x w1 ⟨rfl, hb⟩
  have HE := Lib.hid (HE.out.belowAll hb)
  have HB := Lib.hid (HB.out.trans (hb.mono HB.out.size))
  clear hb ce
  have ce := HE.out.cell
  cases v1
  · have HV : Hid (rightE e = false) := by show _ = _; unfold rightE; rw [H1.out]; rfl
    go_wp2_with fail
    go_ret
    exact ⟨ret_bool HV.out.symm, HB.out⟩
  · by_cases h1 : 1 ≤ e.phase
    · have d1 : decide (1 ≤ e.phase) = true := decide_eq_true h1
      by_cases h2 : e.phase ≤ 3
      · have d2 : decide (e.phase ≤ 3) = true := decide_eq_true h2
        have HV : Hid (rightE e = true) := by show _ = _; unfold rightE; rw [H1.out, d1, d2]; rfl
        clear h1 h2
        go_wp2_with fail
        go_ret
        exact ⟨ret_bool HV.out.symm, HB.out⟩
      · have d2 : decide (e.phase ≤ 3) = false := decide_eq_false h2
        have HV : Hid (rightE e = false) := by show _ = _; unfold rightE; rw [H1.out, d1, d2]; rfl
        clear h1 h2
        go_wp2_with fail
        go_ret
        exact ⟨ret_bool HV.out.symm, HB.out⟩
    · have d1 : decide (1 ≤ e.phase) = false := decide_eq_false h1
      have HV : Hid (rightE e = false) := by show _ = _; unfold rightE; rw [H1.out, d1]; rfl
      clear h1
      go_wp2_with fail
      go_ret
      exact ⟨ret_bool HV.out.symm, HB.out⟩
theorem rightE_parts {e : En} (h1 : e.pod.right = true) (h2 : 1 ≤ e.phase) (h3 : e.phase ≤ 3) : rightE e = true := by unfold rightE; rw [h1, decide_eq_true h2, decide_eq_true h3]; rfl
theorem rightE_un {e : En} (h : rightE e = true) : e.pod.right = true ∧ 1 ≤ e.phase ∧ e.phase ≤ 3 := by
  unfold rightE at h
  simp only [Bool.and_eq_true, decide_eq_true_eq] at h
  exact h
structure SQ (rd : Int) (A : Option Addr) (l : List En) (c : Nat) (o0 o1 o2 : Bool) (w W : World) : Prop where
  sb : Blk W (w.heap.size) 25 #[.int .i64 rd, .slice A l.length c, .bool o0, .bool o1, .bool o2]
  bel : Below w.heap.size w W
theorem SQ.below {rd : Int} {A : Option Addr} {l : List En} {c : Nat} {o0 o1 o2 : Bool} {w W W' : World} (h : SQ rd A l c o0 o1 o2 w W) (hb : Below W.heap.size W W') : SQ rd A l c o0 o1 o2 w W' := ⟨h.sb.belowAll hb, h.bel.trans (hb.mono h.bel.size)⟩
theorem SQ.alloc {rd : Int} {A : Option Addr} {l : List En} {c : Nat} {o0 o1 o2 : Bool} {w W : World} (h : SQ rd A l c o0 o1 o2 w W) (o : Obj) : SQ rd A l c o0 o1 o2 w (W.alloc o) := ⟨h.sb.alloc o, h.bel.alloc h.bel.size o⟩
theorem SQ.drew {rd : Int} {A : Option Addr} {l : List En} {c : Nat} {o0 o1 o2 : Bool} {w W : World} (h : SQ rd A l c o0 o1 o2 w W) : SQ rd A l c o0 o1 o2 w W.drew := ⟨h.sb.drew, h.bel.drew⟩
theorem SQ.new (rd : Int) (A : Option Addr) (l : List En) (c : Nat) (o0 o1 o2 : Bool) (w : World) : SQ rd A l c o0 o1 o2 w (w.alloc (.cells #[.int .i64 rd, .slice A l.length c, .bool o0, .bool o1, .bool o2] 25)) := by
  have b0 := Blk.new w 25 #[.int .i64 rd, .slice A l.length c, .bool o0, .bool o1, .bool o2]
  have bel : Below w.heap.size w (w.alloc (.cells #[.int .i64 rd, .slice A l.length c, .bool o0, .bool o1, .bool o2] 25)) := (Below.refl w.heap.size w).alloc (Nat.le_refl _) _
  exact ⟨b0, bel⟩

set_option maxRecDepth 100000 in
set_option maxHeartbeats 8000000 in
theorem stRightV_any {rd : Int} {l : List En} {v : Bool} (hv : v = true ↔ RightS rd l) (A : Option Addr) (c : Nat) (o0 o1 o2 : Bool) (w : World) (hr : Rds w encN A l) (hw : ∀ x ∈ l, x.pod.Wf) (hm : l.length ≤ 9223372036854775807) :
    Calls Tryd.prog 14 #[.agg #[.int .i64 rd, .slice A l.length c, .bool o0, .bool o1, .bool o2]] w fun e w' => e = .returned (.bool v) ∧ Below w.heap.size w w' := by
  have HQ := Lib.hid (SQ.new rd A l c o0 o1 o2 w)
  have HR := Lib.hid hr
  have HV := Lib.hid hv
  have HW := Lib.hid hw
  clear hr hv hw
  by_cases h1 : rd < 0
  · have HN : Hid (v = false) := RightS.no HV.out fun h => by have := h.lo; omega
    have d1 : decide (rd < 0) = true := decide_eq_true h1
    clear h1
    go_enter Tryd.func14, Tryd.ntmps14
    have cs := HQ.out.sb.cell
    go_wp2_with fail
    go_ret
    exact ⟨ret_bool HN.out.symm, HQ.out.bel⟩
  have d1 : decide (rd < 0) = false := decide_eq_false h1
  by_cases h2 : 1099511627776 < rd
  · have HN : Hid (v = false) := RightS.no HV.out fun h => by have := h.hi; omega
    have d2 : decide (1099511627776 < rd) = true := decide_eq_true h2
    clear h1 h2
    go_enter Tryd.func14, Tryd.ntmps14
    have cs := HQ.out.sb.cell
    go_wp2_with fail
    go_ret
    exact ⟨ret_bool HN.out.symm, HQ.out.bel⟩
  have d2 : decide (1099511627776 < rd) = false := decide_eq_false h2
  by_cases h3 : 64 < l.length
  · have HN : Hid (v = false) := RightS.no HV.out fun h => by have := h.len; omega
    have d3 : decide (64 < l.length) = true := decide_eq_true h3
    have d4 : decide ((64 : Int) < (l.length : Int)) = true := decide_eq_true (by omega)
    clear h1 h2 h3
    go_enter Tryd.func14, Tryd.ntmps14
    have cs := HQ.out.sb.cell
    go_wp2_with fail
    go_ret
    exact ⟨ret_bool HN.out.symm, HQ.out.bel⟩
  have d3 : decide (64 < l.length) = false := decide_eq_false h3
  have d4 : decide ((64 : Int) < (l.length : Int)) = false := decide_eq_false (by omega)
  have HLE := Lib.hid (show 0 ≤ rd ∧ rd ≤ 1099511627776 ∧ l.length ≤ 64 from ⟨by omega, by omega, by omega⟩)
  clear h1 h2
  go_enter Tryd.func14, Tryd.ntmps14
  have cs := HQ.out.sb.cell
  go_wp2_with fail
  clear cs
  generalize w.alloc (.cells #[.int .i64 rd, .slice A l.length c, .bool o0, .bool o1, .bool o2] 25) = w0 at *
  go_loopw [22] (fun ii wr => ∃ i : Nat, i ≤ l.length ∧ ii = .int .i64 i ∧ OkSTo l i ∧ SQ rd A l c o0 o1 o2 w wr) (fun ii _ => l.length - (intOf ii).toNat)
  case atStart => exact ⟨0, by omega, rfl, fun _ _ h => by omega, HQ.out⟩
  case round =>
    clear HQ
    obtain ⟨i, hi, rfl, hok, hq⟩ := hrel
    have HOK := Lib.hid hok
    have HQ := Lib.hid hq
    clear hok hq
    by_cases hlt : i < l.length
    · obtain ⟨b, off, hA, _⟩ := HR.out.en hlt
      obtain rfl : A = some ⟨b, off, none⟩ := hA
      have dk : decide ((i : Int) < (l.length : Int)) = true := decide_eq_true (by omega)
      have dk2 : (i : Int) < (l.length : Int) := by omega
      have HXI := Lib.hid (List.getElem?_eq_getElem hlt)
      have HWX := Lib.hid (HW.out _ (List.getElem_mem hlt))
      have HNo := Lib.hid (show ¬ OkS l i hlt → v = false from fun h => RightS.no HV.out fun hf => h (hf.ok i hlt hlt))
      have HYes := Lib.hid (fun a : OkS l i hlt => HOK.out.snoc hlt a)
      have HMk := Lib.hid (show rightE l[i] = true → (∀ j (hj : j + 1 = i), blt (l[j]'(by omega)).pod.id l[i].pod.id = true) → OkS l i hlt from fun a1 a2 => ⟨a1, a2⟩)
      have HUn := Lib.hid (show OkS l i hlt → rightE l[i] = true ∧ ∀ j (hj : j + 1 = i), blt (l[j]'(by omega)).pod.id l[i].pod.id = true from fun h => ⟨h.r, h.s⟩)
      generalize l[i] = x at *
      obtain ⟨x0, x1, x2, x3, x4, x5, x6, x7, x8, x9, x10, x11⟩ := HR.out.enAt HQ.out.bel HXI.out
      have cs := HQ.out.sb.cell
      have HE := Lib.hid (Blk.new wr 46 #[.string x.pod.id, .int .i64 x.pod.prio, .bool x.pod.crit, .int .i64 x.pod.q0, .int .i64 x.pod.q1, .int .i64 x.pod.q2, .int .i64 x.pod.l0, .int .i64 x.pod.l1, .int .i64 x.pod.l2, .string x.pod.image, .int .i64 x.pod.size, .int .i64 x.phase])
      have HRX := Lib.hid ((HR.out.below HQ.out.bel).alloc (.cells #[.string x.pod.id, .int .i64 x.pod.prio, .bool x.pod.crit, .int .i64 x.pod.q0, .int .i64 x.pod.q1, .int .i64 x.pod.q2, .int .i64 x.pod.l0, .int .i64 x.pod.l1, .int .i64 x.pod.l2, .string x.pod.image, .int .i64 x.pod.size, .int .i64 x.phase] 46))
      have HQ := Lib.hid (HQ.out.alloc (.cells #[.string x.pod.id, .int .i64 x.pod.prio, .bool x.pod.crit, .int .i64 x.pod.q0, .int .i64 x.pod.q1, .int .i64 x.pod.q2, .int .i64 x.pod.l0, .int .i64 x.pod.l1, .int .i64 x.pod.l2, .string x.pod.image, .int .i64 x.pod.size, .int .i64 x.phase] 46))
      go_wp2_with fail
      clear cs x0 x1 x2 x3 x4 x5 x6 x7 x8 x9 x10 x11
      generalize wr.heap.size = N at *
      generalize wr.alloc (.cells #[.string x.pod.id, .int .i64 x.pod.prio, .bool x.pod.crit, .int .i64 x.pod.q0, .int .i64 x.pod.q1, .int .i64 x.pod.q2, .int .i64 x.pod.l0, .int .i64 x.pod.l1, .int .i64 x.pod.l2, .string x.pod.image, .int .i64 x.pod.size, .int .i64 x.phase] 46) = W5 at *
      cases hre : rightE x
      · have HN := Lib.hid (HNo.out fun h => by have := (HUn.out h).1; rw [hre] at this; cases this)
        have HRE := Lib.hid hre
        clear hre
        have HE := Lib.hid HE.out.drew
        have HQ := Lib.hid HQ.out.drew
        have HRX := Lib.hid HRX.out.drew
        refine wp_region_held_drew (S := (fun w' => w'.cell? ⟨N, 0, none⟩ = some (.string x.pod.id) ∧ w'.cell? ⟨N, 1, none⟩ = some (.int .i64 x.pod.prio) ∧ w'.cell? ⟨N, 2, none⟩ = some (.bool x.pod.crit) ∧ w'.cell? ⟨N, 3, none⟩ = some (.int .i64 x.pod.q0) ∧ w'.cell? ⟨N, 4, none⟩ = some (.int .i64 x.pod.q1) ∧ w'.cell? ⟨N, 5, none⟩ = some (.int .i64 x.pod.q2) ∧ w'.cell? ⟨N, 6, none⟩ = some (.int .i64 x.pod.l0) ∧ w'.cell? ⟨N, 7, none⟩ = some (.int .i64 x.pod.l1) ∧ w'.cell? ⟨N, 8, none⟩ = some (.int .i64 x.pod.l2) ∧ w'.cell? ⟨N, 9, none⟩ = some (.string x.pod.image) ∧ w'.cell? ⟨N, 10, none⟩ = some (.int .i64 x.pod.size) ∧ w'.cell? ⟨N, 11, none⟩ = some (.int .i64 x.phase) ∧ w'.cell? ⟨w.heap.size, 1, none⟩ = some (.slice (some ⟨b, off, none⟩) l.length c))) (by kernel_rfl) (⟨HE.out.cell 0, HE.out.cell 1, HE.out.cell 2, HE.out.cell 3, HE.out.cell 4, HE.out.cell 5, HE.out.cell 6, HE.out.cell 7, HE.out.cell 8, HE.out.cell 9, HE.out.cell 10, HE.out.cell 11, HQ.out.sb.cell 1⟩) (fun hHeld => ?_)
        generalize W5.drew = wd at *
        refine held_take 0 27 (.agg #[.string x.pod.id, .int .i64 x.pod.prio, .bool x.pod.crit, .int .i64 x.pod.q0, .int .i64 x.pod.q1, .int .i64 x.pod.q2, .int .i64 x.pod.l0, .int .i64 x.pod.l1, .int .i64 x.pod.l2, .string x.pod.image, .int .i64 x.pod.size, .int .i64 x.phase]) rfl rfl (by kernel_rfl) (by kernel_rfl) (by kernel_rfl) (fun _ _ _ h => h) (by rfl) (by intro w' hSw; (try dsimp only at hSw); go_simp; (try (with_reducible rfl))) (by assumption) ?_
        simp only [Act.put, List.setIfInBounds_toArray, List.set_cons_zero, List.set_cons_succ]
        refine held_call 1 28 rfl rfl (by kernel_rfl) (by rfl) (fun K hK => ?_)
        go_simp
        go_at_call 34; with_reducible refine (rightE_any HRE.out _ HWX.out).mono ?_; rintro e w6 ⟨rfl, hb⟩
        have HE := Lib.hid (HE.out.belowAll hb)
        have HQ := Lib.hid (HQ.out.below hb)
        have HRX := Lib.hid (HRX.out.below hb)
        clear hb
        refine hK _ _ (⟨HE.out.cell 0, HE.out.cell 1, HE.out.cell 2, HE.out.cell 3, HE.out.cell 4, HE.out.cell 5, HE.out.cell 6, HE.out.cell 7, HE.out.cell 8, HE.out.cell 9, HE.out.cell 10, HE.out.cell 11, HQ.out.sb.cell 1⟩) ?_
        have hHeld := (show w6.cell? ⟨N, 0, none⟩ = some (.string x.pod.id) ∧ w6.cell? ⟨N, 1, none⟩ = some (.int .i64 x.pod.prio) ∧ w6.cell? ⟨N, 2, none⟩ = some (.bool x.pod.crit) ∧ w6.cell? ⟨N, 3, none⟩ = some (.int .i64 x.pod.q0) ∧ w6.cell? ⟨N, 4, none⟩ = some (.int .i64 x.pod.q1) ∧ w6.cell? ⟨N, 5, none⟩ = some (.int .i64 x.pod.q2) ∧ w6.cell? ⟨N, 6, none⟩ = some (.int .i64 x.pod.l0) ∧ w6.cell? ⟨N, 7, none⟩ = some (.int .i64 x.pod.l1) ∧ w6.cell? ⟨N, 8, none⟩ = some (.int .i64 x.pod.l2) ∧ w6.cell? ⟨N, 9, none⟩ = some (.string x.pod.image) ∧ w6.cell? ⟨N, 10, none⟩ = some (.int .i64 x.pod.size) ∧ w6.cell? ⟨N, 11, none⟩ = some (.int .i64 x.phase) ∧ w6.cell? ⟨w.heap.size, 1, none⟩ = some (.slice (some ⟨b, off, none⟩) l.length c) from ⟨HE.out.cell 0, HE.out.cell 1, HE.out.cell 2, HE.out.cell 3, HE.out.cell 4, HE.out.cell 5, HE.out.cell 6, HE.out.cell 7, HE.out.cell 8, HE.out.cell 9, HE.out.cell 10, HE.out.cell 11, HQ.out.sb.cell 1⟩)
        clear hK K
        simp only [Act.put, List.setIfInBounds_toArray, List.set_cons_zero, List.set_cons_succ]
        refine held_take 2 29 (.bool true) rfl rfl (by kernel_rfl) (by kernel_rfl) (by kernel_rfl) (fun _ _ _ h => h) (by rfl) (by intro w' hSw; (try dsimp only at hSw); go_simp; (try (with_reducible rfl))) (by assumption) ?_
        simp only [Act.put, List.setIfInBounds_toArray, List.set_cons_zero, List.set_cons_succ]
        refine held_take 3 30 (.bool true) rfl rfl (by kernel_rfl) (by kernel_rfl) (by kernel_rfl) (fun _ _ _ h => h) (by rfl) (by intro w' hSw; (try dsimp only at hSw); go_simp; (try (with_reducible rfl))) (by assumption) ?_
        simp only [Act.put, List.setIfInBounds_toArray, List.set_cons_zero, List.set_cons_succ]
        refine held_skip 4 31 rfl rfl (by kernel_rfl) (by kernel_rfl) (by kernel_rfl) (fun _ _ _ h => h) (by rfl) (by assumption) ?_
        simp only [Act.put, List.setIfInBounds_toArray, List.set_cons_zero, List.set_cons_succ]
        refine held_skip 5 32 rfl rfl (by kernel_rfl) (by kernel_rfl) (by kernel_rfl) (fun _ _ _ h => h) (by rfl) (by assumption) ?_
        simp only [Act.put, List.setIfInBounds_toArray, List.set_cons_zero, List.set_cons_succ]
        refine held_skip 6 33 rfl rfl (by kernel_rfl) (by kernel_rfl) (by kernel_rfl) (fun _ _ _ h => h) (by rfl) (by assumption) ?_
        simp only [Act.put, List.setIfInBounds_toArray, List.set_cons_zero, List.set_cons_succ]
        refine held_skip 7 34 rfl rfl (by kernel_rfl) (by kernel_rfl) (by kernel_rfl) (fun _ _ _ h => h) (by rfl) (by assumption) ?_
        simp only [Act.put, List.setIfInBounds_toArray, List.set_cons_zero, List.set_cons_succ]
        refine held_skip 8 35 rfl rfl (by kernel_rfl) (by kernel_rfl) (by kernel_rfl) (fun _ _ _ h => h) (by rfl) (by assumption) ?_
        simp only [Act.put, List.setIfInBounds_toArray, List.set_cons_zero, List.set_cons_succ]
        refine held_skip 9 36 rfl rfl (by kernel_rfl) (by kernel_rfl) (by kernel_rfl) (fun _ _ _ h => h) (by rfl) (by assumption) ?_
        simp only [Act.put, List.setIfInBounds_toArray, List.set_cons_zero, List.set_cons_succ]
        refine held_skip 10 37 rfl rfl (by kernel_rfl) (by kernel_rfl) (by kernel_rfl) (fun _ _ _ h => h) (by rfl) (by assumption) ?_
        simp only [Act.put, List.setIfInBounds_toArray, List.set_cons_zero, List.set_cons_succ]
        refine held_skip 11 38 rfl rfl (by kernel_rfl) (by kernel_rfl) (by kernel_rfl) (fun _ _ _ h => h) (by rfl) (by assumption) ?_
        simp only [Act.put, List.setIfInBounds_toArray, List.set_cons_zero, List.set_cons_succ]
        refine held_skip 12 39 rfl rfl (by kernel_rfl) (by kernel_rfl) (by kernel_rfl) (fun _ _ _ h => h) (by rfl) (by assumption) ?_
        simp only [Act.put, List.setIfInBounds_toArray, List.set_cons_zero, List.set_cons_succ]
        refine held_skip 13 40 rfl rfl (by kernel_rfl) (by kernel_rfl) (by kernel_rfl) (fun _ _ _ h => h) (by rfl) (by assumption) ?_
        simp only [Act.put, List.setIfInBounds_toArray, List.set_cons_zero, List.set_cons_succ]
        refine held_skip 14 41 rfl rfl (by kernel_rfl) (by kernel_rfl) (by kernel_rfl) (fun _ _ _ h => h) (by rfl) (by assumption) ?_
        simp only [Act.put, List.setIfInBounds_toArray, List.set_cons_zero, List.set_cons_succ]
        refine held_skip 15 42 rfl rfl (by kernel_rfl) (by kernel_rfl) (by kernel_rfl) (fun _ _ _ h => h) (by rfl) (by assumption) ?_
        simp only [Act.put, List.setIfInBounds_toArray, List.set_cons_zero, List.set_cons_succ]
        refine held_skip 16 43 rfl rfl (by kernel_rfl) (by kernel_rfl) (by kernel_rfl) (fun _ _ _ h => h) (by rfl) (by assumption) ?_
        simp only [Act.put, List.setIfInBounds_toArray, List.set_cons_zero, List.set_cons_succ]
        refine held_skip 17 44 rfl rfl (by kernel_rfl) (by kernel_rfl) (by kernel_rfl) (fun _ _ _ h => h) (by rfl) (by assumption) ?_
        simp only [Act.put, List.setIfInBounds_toArray, List.set_cons_zero, List.set_cons_succ]
        refine held_skip 18 45 rfl rfl (by kernel_rfl) (by kernel_rfl) (by kernel_rfl) (fun _ _ _ h => h) (by rfl) (by assumption) ?_
        simp only [Act.put, List.setIfInBounds_toArray, List.set_cons_zero, List.set_cons_succ]
        refine held_skip 19 46 rfl rfl (by kernel_rfl) (by kernel_rfl) (by kernel_rfl) (fun _ _ _ h => h) (by rfl) (by assumption) ?_
        simp only [Act.put, List.setIfInBounds_toArray, List.set_cons_zero, List.set_cons_succ]
        refine held_take 20 47 (.bool true) rfl rfl (by kernel_rfl) (by kernel_rfl) (by kernel_rfl) (fun _ _ _ h => h) (by rfl) (by intro w' hSw; (try dsimp only at hSw); go_simp; (try (with_reducible rfl))) (by assumption) ?_
        simp only [Act.put, List.setIfInBounds_toArray, List.set_cons_zero, List.set_cons_succ]
        refine wpAnyH_done (by kernel_rfl) ?_ _
        clear hHeld
        go_wp2_with fail
        go_ret
        exact ⟨ret_bool HN.out.symm, HQ.out.bel⟩
      · rcases Nat.eq_zero_or_pos i with hz | hz
        · subst hz
          have HYS := Lib.hid (HYes.out (HMk.out hre fun j hj => by omega))
          have HRE := Lib.hid hre
          clear hre
          have HE := Lib.hid HE.out.drew
          have HQ := Lib.hid HQ.out.drew
          have HRX := Lib.hid HRX.out.drew
          refine wp_region_held_drew (S := (fun w' => w'.cell? ⟨N, 0, none⟩ = some (.string x.pod.id) ∧ w'.cell? ⟨N, 1, none⟩ = some (.int .i64 x.pod.prio) ∧ w'.cell? ⟨N, 2, none⟩ = some (.bool x.pod.crit) ∧ w'.cell? ⟨N, 3, none⟩ = some (.int .i64 x.pod.q0) ∧ w'.cell? ⟨N, 4, none⟩ = some (.int .i64 x.pod.q1) ∧ w'.cell? ⟨N, 5, none⟩ = some (.int .i64 x.pod.q2) ∧ w'.cell? ⟨N, 6, none⟩ = some (.int .i64 x.pod.l0) ∧ w'.cell? ⟨N, 7, none⟩ = some (.int .i64 x.pod.l1) ∧ w'.cell? ⟨N, 8, none⟩ = some (.int .i64 x.pod.l2) ∧ w'.cell? ⟨N, 9, none⟩ = some (.string x.pod.image) ∧ w'.cell? ⟨N, 10, none⟩ = some (.int .i64 x.pod.size) ∧ w'.cell? ⟨N, 11, none⟩ = some (.int .i64 x.phase) ∧ w'.cell? ⟨w.heap.size, 1, none⟩ = some (.slice (some ⟨b, off, none⟩) l.length c))) (by kernel_rfl) (⟨HE.out.cell 0, HE.out.cell 1, HE.out.cell 2, HE.out.cell 3, HE.out.cell 4, HE.out.cell 5, HE.out.cell 6, HE.out.cell 7, HE.out.cell 8, HE.out.cell 9, HE.out.cell 10, HE.out.cell 11, HQ.out.sb.cell 1⟩) (fun hHeld => ?_)
          generalize W5.drew = wd at *
          refine held_take 0 27 (.agg #[.string x.pod.id, .int .i64 x.pod.prio, .bool x.pod.crit, .int .i64 x.pod.q0, .int .i64 x.pod.q1, .int .i64 x.pod.q2, .int .i64 x.pod.l0, .int .i64 x.pod.l1, .int .i64 x.pod.l2, .string x.pod.image, .int .i64 x.pod.size, .int .i64 x.phase]) rfl rfl (by kernel_rfl) (by kernel_rfl) (by kernel_rfl) (fun _ _ _ h => h) (by rfl) (by intro w' hSw; (try dsimp only at hSw); go_simp; (try (with_reducible rfl))) (by assumption) ?_
          simp only [Act.put, List.setIfInBounds_toArray, List.set_cons_zero, List.set_cons_succ]
          refine held_call 1 28 rfl rfl (by kernel_rfl) (by rfl) (fun K hK => ?_)
          go_simp
          go_at_call 34; with_reducible refine (rightE_any HRE.out _ HWX.out).mono ?_; rintro e w6 ⟨rfl, hb⟩
          have HE := Lib.hid (HE.out.belowAll hb)
          have HQ := Lib.hid (HQ.out.below hb)
          have HRX := Lib.hid (HRX.out.below hb)
          clear hb
          refine hK _ _ (⟨HE.out.cell 0, HE.out.cell 1, HE.out.cell 2, HE.out.cell 3, HE.out.cell 4, HE.out.cell 5, HE.out.cell 6, HE.out.cell 7, HE.out.cell 8, HE.out.cell 9, HE.out.cell 10, HE.out.cell 11, HQ.out.sb.cell 1⟩) ?_
          have hHeld := (show w6.cell? ⟨N, 0, none⟩ = some (.string x.pod.id) ∧ w6.cell? ⟨N, 1, none⟩ = some (.int .i64 x.pod.prio) ∧ w6.cell? ⟨N, 2, none⟩ = some (.bool x.pod.crit) ∧ w6.cell? ⟨N, 3, none⟩ = some (.int .i64 x.pod.q0) ∧ w6.cell? ⟨N, 4, none⟩ = some (.int .i64 x.pod.q1) ∧ w6.cell? ⟨N, 5, none⟩ = some (.int .i64 x.pod.q2) ∧ w6.cell? ⟨N, 6, none⟩ = some (.int .i64 x.pod.l0) ∧ w6.cell? ⟨N, 7, none⟩ = some (.int .i64 x.pod.l1) ∧ w6.cell? ⟨N, 8, none⟩ = some (.int .i64 x.pod.l2) ∧ w6.cell? ⟨N, 9, none⟩ = some (.string x.pod.image) ∧ w6.cell? ⟨N, 10, none⟩ = some (.int .i64 x.pod.size) ∧ w6.cell? ⟨N, 11, none⟩ = some (.int .i64 x.phase) ∧ w6.cell? ⟨w.heap.size, 1, none⟩ = some (.slice (some ⟨b, off, none⟩) l.length c) from ⟨HE.out.cell 0, HE.out.cell 1, HE.out.cell 2, HE.out.cell 3, HE.out.cell 4, HE.out.cell 5, HE.out.cell 6, HE.out.cell 7, HE.out.cell 8, HE.out.cell 9, HE.out.cell 10, HE.out.cell 11, HQ.out.sb.cell 1⟩)
          clear hK K
          simp only [Act.put, List.setIfInBounds_toArray, List.set_cons_zero, List.set_cons_succ]
          refine held_take 2 29 (.bool false) rfl rfl (by kernel_rfl) (by kernel_rfl) (by kernel_rfl) (fun _ _ _ h => h) (by rfl) (by intro w' hSw; (try dsimp only at hSw); go_simp; (try (with_reducible rfl))) (by assumption) ?_
          simp only [Act.put, List.setIfInBounds_toArray, List.set_cons_zero, List.set_cons_succ]
          refine held_take 3 30 (.bool false) rfl rfl (by kernel_rfl) (by kernel_rfl) (by kernel_rfl) (fun _ _ _ h => h) (by rfl) (by intro w' hSw; (try dsimp only at hSw); go_simp; (try (with_reducible rfl))) (by assumption) ?_
          simp only [Act.put, List.setIfInBounds_toArray, List.set_cons_zero, List.set_cons_succ]
          refine held_take 4 31 (.int .i64 0) rfl rfl (by kernel_rfl) (by kernel_rfl) (by kernel_rfl) (fun _ _ _ h => h) (by rfl) (by intro w' hSw; (try dsimp only at hSw); go_simp; (try (with_reducible rfl))) (by assumption) ?_
          simp only [Act.put, List.setIfInBounds_toArray, List.set_cons_zero, List.set_cons_succ]
          refine held_take 5 32 (.bool false) rfl rfl (by kernel_rfl) (by kernel_rfl) (by kernel_rfl) (fun _ _ _ h => h) (by rfl) (by intro w' hSw; (try dsimp only at hSw); go_simp; (first | done | with_reducible rfl | (first | done | with_reducible rfl | omega | (simp; done) | (rw [IntKind.wrap_i64]; omega) | (simp; omega)))) (by assumption) ?_
          simp only [Act.put, List.setIfInBounds_toArray, List.set_cons_zero, List.set_cons_succ]
          refine held_take 6 33 (.bool false) rfl rfl (by kernel_rfl) (by kernel_rfl) (by kernel_rfl) (fun _ _ _ h => h) (by rfl) (by intro w' hSw; (try dsimp only at hSw); go_simp; (try (with_reducible rfl))) (by assumption) ?_
          simp only [Act.put, List.setIfInBounds_toArray, List.set_cons_zero, List.set_cons_succ]
          refine held_skip 7 34 rfl rfl (by kernel_rfl) (by kernel_rfl) (by kernel_rfl) (fun _ _ _ h => h) (by rfl) (by assumption) ?_
          simp only [Act.put, List.setIfInBounds_toArray, List.set_cons_zero, List.set_cons_succ]
          refine held_skip 8 35 rfl rfl (by kernel_rfl) (by kernel_rfl) (by kernel_rfl) (fun _ _ _ h => h) (by rfl) (by assumption) ?_
          simp only [Act.put, List.setIfInBounds_toArray, List.set_cons_zero, List.set_cons_succ]
          refine held_skip 9 36 rfl rfl (by kernel_rfl) (by kernel_rfl) (by kernel_rfl) (fun _ _ _ h => h) (by rfl) (by assumption) ?_
          simp only [Act.put, List.setIfInBounds_toArray, List.set_cons_zero, List.set_cons_succ]
          refine held_skip 10 37 rfl rfl (by kernel_rfl) (by kernel_rfl) (by kernel_rfl) (fun _ _ _ h => h) (by rfl) (by assumption) ?_
          simp only [Act.put, List.setIfInBounds_toArray, List.set_cons_zero, List.set_cons_succ]
          refine held_skip 11 38 rfl rfl (by kernel_rfl) (by kernel_rfl) (by kernel_rfl) (fun _ _ _ h => h) (by rfl) (by assumption) ?_
          simp only [Act.put, List.setIfInBounds_toArray, List.set_cons_zero, List.set_cons_succ]
          refine held_skip 12 39 rfl rfl (by kernel_rfl) (by kernel_rfl) (by kernel_rfl) (fun _ _ _ h => h) (by rfl) (by assumption) ?_
          simp only [Act.put, List.setIfInBounds_toArray, List.set_cons_zero, List.set_cons_succ]
          refine held_skip 13 40 rfl rfl (by kernel_rfl) (by kernel_rfl) (by kernel_rfl) (fun _ _ _ h => h) (by rfl) (by assumption) ?_
          simp only [Act.put, List.setIfInBounds_toArray, List.set_cons_zero, List.set_cons_succ]
          refine held_skip 14 41 rfl rfl (by kernel_rfl) (by kernel_rfl) (by kernel_rfl) (fun _ _ _ h => h) (by rfl) (by assumption) ?_
          simp only [Act.put, List.setIfInBounds_toArray, List.set_cons_zero, List.set_cons_succ]
          refine held_skip 15 42 rfl rfl (by kernel_rfl) (by kernel_rfl) (by kernel_rfl) (fun _ _ _ h => h) (by rfl) (by assumption) ?_
          simp only [Act.put, List.setIfInBounds_toArray, List.set_cons_zero, List.set_cons_succ]
          refine held_skip 16 43 rfl rfl (by kernel_rfl) (by kernel_rfl) (by kernel_rfl) (fun _ _ _ h => h) (by rfl) (by assumption) ?_
          simp only [Act.put, List.setIfInBounds_toArray, List.set_cons_zero, List.set_cons_succ]
          refine held_skip 17 44 rfl rfl (by kernel_rfl) (by kernel_rfl) (by kernel_rfl) (fun _ _ _ h => h) (by rfl) (by assumption) ?_
          simp only [Act.put, List.setIfInBounds_toArray, List.set_cons_zero, List.set_cons_succ]
          refine held_skip 18 45 rfl rfl (by kernel_rfl) (by kernel_rfl) (by kernel_rfl) (fun _ _ _ h => h) (by rfl) (by assumption) ?_
          simp only [Act.put, List.setIfInBounds_toArray, List.set_cons_zero, List.set_cons_succ]
          refine held_take 19 46 (.bool false) rfl rfl (by kernel_rfl) (by kernel_rfl) (by kernel_rfl) (fun _ _ _ h => h) (by rfl) (by intro w' hSw; (try dsimp only at hSw); go_simp; (try (with_reducible rfl))) (by assumption) ?_
          simp only [Act.put, List.setIfInBounds_toArray, List.set_cons_zero, List.set_cons_succ]
          refine held_take 20 47 (.bool false) rfl rfl (by kernel_rfl) (by kernel_rfl) (by kernel_rfl) (fun _ _ _ h => h) (by rfl) (by intro w' hSw; (try dsimp only at hSw); go_simp; (try (with_reducible rfl))) (by assumption) ?_
          simp only [Act.put, List.setIfInBounds_toArray, List.set_cons_zero, List.set_cons_succ]
          refine wpAnyH_done (by kernel_rfl) ?_ _
          clear hHeld
          go_wp2_with fail
          go_roundw
          case rel => exact ⟨1, by omega, by go_num, HYS.out, HQ.out⟩
          case measure => simp [intOf]; omega
        · obtain ⟨j, rfl⟩ : ∃ j, i = j + 1 := ⟨i - 1, by omega⟩
          have hjl : j < l.length := by omega
          have HYJ := Lib.hid (List.getElem?_eq_getElem hjl)
          have HY2 := Lib.hid (fun h : blt l[j].pod.id x.pod.id = true => HYes.out (HMk.out hre fun t ht => by cases (show t = j by omega); exact h))
          have HN2 := Lib.hid (fun h : blt l[j].pod.id x.pod.id = false => HNo.out fun h2 => by have := (HUn.out h2).2 j rfl; rw [h] at this; cases this)
          have dj : decide ((0 : Int) < ((j + 1 : Nat) : Int)) = true := decide_eq_true (by omega)
          have dj2 : (j : Int) < (l.length : Int) := by omega
          generalize l[j] = y at *
          cases hbl : blt y.pod.id x.pod.id
          · have HN := Lib.hid (HN2.out hbl)
            have HRE := Lib.hid hre
            clear hre
            have HBL := Lib.hid hbl
            clear hbl
            have HE := Lib.hid HE.out.drew
            have HQ := Lib.hid HQ.out.drew
            have HRX := Lib.hid HRX.out.drew
            refine wp_region_held_drew (S := (fun w' => w'.cell? ⟨N, 0, none⟩ = some (.string x.pod.id) ∧ w'.cell? ⟨N, 1, none⟩ = some (.int .i64 x.pod.prio) ∧ w'.cell? ⟨N, 2, none⟩ = some (.bool x.pod.crit) ∧ w'.cell? ⟨N, 3, none⟩ = some (.int .i64 x.pod.q0) ∧ w'.cell? ⟨N, 4, none⟩ = some (.int .i64 x.pod.q1) ∧ w'.cell? ⟨N, 5, none⟩ = some (.int .i64 x.pod.q2) ∧ w'.cell? ⟨N, 6, none⟩ = some (.int .i64 x.pod.l0) ∧ w'.cell? ⟨N, 7, none⟩ = some (.int .i64 x.pod.l1) ∧ w'.cell? ⟨N, 8, none⟩ = some (.int .i64 x.pod.l2) ∧ w'.cell? ⟨N, 9, none⟩ = some (.string x.pod.image) ∧ w'.cell? ⟨N, 10, none⟩ = some (.int .i64 x.pod.size) ∧ w'.cell? ⟨N, 11, none⟩ = some (.int .i64 x.phase) ∧ w'.cell? ⟨w.heap.size, 1, none⟩ = some (.slice (some ⟨b, off, none⟩) l.length c) ∧ w'.cell? ⟨b, off + j * 12, none⟩ = some (.string y.pod.id))) (by kernel_rfl) (⟨HE.out.cell 0, HE.out.cell 1, HE.out.cell 2, HE.out.cell 3, HE.out.cell 4, HE.out.cell 5, HE.out.cell 6, HE.out.cell 7, HE.out.cell 8, HE.out.cell 9, HE.out.cell 10, HE.out.cell 11, HQ.out.sb.cell 1, (HRX.out.enAt (Below.refl _ _) HYJ.out).1⟩) (fun hHeld => ?_)
            generalize W5.drew = wd at *
            refine held_take 0 27 (.agg #[.string x.pod.id, .int .i64 x.pod.prio, .bool x.pod.crit, .int .i64 x.pod.q0, .int .i64 x.pod.q1, .int .i64 x.pod.q2, .int .i64 x.pod.l0, .int .i64 x.pod.l1, .int .i64 x.pod.l2, .string x.pod.image, .int .i64 x.pod.size, .int .i64 x.phase]) rfl rfl (by kernel_rfl) (by kernel_rfl) (by kernel_rfl) (fun _ _ _ h => h) (by rfl) (by intro w' hSw; (try dsimp only at hSw); go_simp; (try (with_reducible rfl))) (by assumption) ?_
            simp only [Act.put, List.setIfInBounds_toArray, List.set_cons_zero, List.set_cons_succ]
            refine held_call 1 28 rfl rfl (by kernel_rfl) (by rfl) (fun K hK => ?_)
            go_simp
            go_at_call 34; with_reducible refine (rightE_any HRE.out _ HWX.out).mono ?_; rintro e w6 ⟨rfl, hb⟩
            have HE := Lib.hid (HE.out.belowAll hb)
            have HQ := Lib.hid (HQ.out.below hb)
            have HRX := Lib.hid (HRX.out.below hb)
            clear hb
            refine hK _ _ (⟨HE.out.cell 0, HE.out.cell 1, HE.out.cell 2, HE.out.cell 3, HE.out.cell 4, HE.out.cell 5, HE.out.cell 6, HE.out.cell 7, HE.out.cell 8, HE.out.cell 9, HE.out.cell 10, HE.out.cell 11, HQ.out.sb.cell 1, (HRX.out.enAt (Below.refl _ _) HYJ.out).1⟩) ?_
            have hHeld := (show w6.cell? ⟨N, 0, none⟩ = some (.string x.pod.id) ∧ w6.cell? ⟨N, 1, none⟩ = some (.int .i64 x.pod.prio) ∧ w6.cell? ⟨N, 2, none⟩ = some (.bool x.pod.crit) ∧ w6.cell? ⟨N, 3, none⟩ = some (.int .i64 x.pod.q0) ∧ w6.cell? ⟨N, 4, none⟩ = some (.int .i64 x.pod.q1) ∧ w6.cell? ⟨N, 5, none⟩ = some (.int .i64 x.pod.q2) ∧ w6.cell? ⟨N, 6, none⟩ = some (.int .i64 x.pod.l0) ∧ w6.cell? ⟨N, 7, none⟩ = some (.int .i64 x.pod.l1) ∧ w6.cell? ⟨N, 8, none⟩ = some (.int .i64 x.pod.l2) ∧ w6.cell? ⟨N, 9, none⟩ = some (.string x.pod.image) ∧ w6.cell? ⟨N, 10, none⟩ = some (.int .i64 x.pod.size) ∧ w6.cell? ⟨N, 11, none⟩ = some (.int .i64 x.phase) ∧ w6.cell? ⟨w.heap.size, 1, none⟩ = some (.slice (some ⟨b, off, none⟩) l.length c) ∧ w6.cell? ⟨b, off + j * 12, none⟩ = some (.string y.pod.id) from ⟨HE.out.cell 0, HE.out.cell 1, HE.out.cell 2, HE.out.cell 3, HE.out.cell 4, HE.out.cell 5, HE.out.cell 6, HE.out.cell 7, HE.out.cell 8, HE.out.cell 9, HE.out.cell 10, HE.out.cell 11, HQ.out.sb.cell 1, (HRX.out.enAt (Below.refl _ _) HYJ.out).1⟩)
            clear hK K
            simp only [Act.put, List.setIfInBounds_toArray, List.set_cons_zero, List.set_cons_succ]
            refine held_take 2 29 (.bool false) rfl rfl (by kernel_rfl) (by kernel_rfl) (by kernel_rfl) (fun _ _ _ h => h) (by rfl) (by intro w' hSw; (try dsimp only at hSw); go_simp; (try (with_reducible rfl))) (by assumption) ?_
            simp only [Act.put, List.setIfInBounds_toArray, List.set_cons_zero, List.set_cons_succ]
            refine held_take 3 30 (.bool false) rfl rfl (by kernel_rfl) (by kernel_rfl) (by kernel_rfl) (fun _ _ _ h => h) (by rfl) (by intro w' hSw; (try dsimp only at hSw); go_simp; (try (with_reducible rfl))) (by assumption) ?_
            simp only [Act.put, List.setIfInBounds_toArray, List.set_cons_zero, List.set_cons_succ]
            refine held_take 4 31 (.int .i64 (j + 1 : Nat)) rfl rfl (by kernel_rfl) (by kernel_rfl) (by kernel_rfl) (fun _ _ _ h => h) (by rfl) (by intro w' hSw; (try dsimp only at hSw); go_simp; (try (with_reducible rfl))) (by assumption) ?_
            simp only [Act.put, List.setIfInBounds_toArray, List.set_cons_zero, List.set_cons_succ]
            refine held_take 5 32 (.bool true) rfl rfl (by kernel_rfl) (by kernel_rfl) (by kernel_rfl) (fun _ _ _ h => h) (by rfl) (by intro w' hSw; (try dsimp only at hSw); go_simp; (first | done | with_reducible rfl | (first | done | with_reducible rfl | omega | (simp; done) | (rw [IntKind.wrap_i64]; omega) | (simp; omega)))) (by assumption) ?_
            simp only [Act.put, List.setIfInBounds_toArray, List.set_cons_zero, List.set_cons_succ]
            refine held_take 6 33 (.bool true) rfl rfl (by kernel_rfl) (by kernel_rfl) (by kernel_rfl) (fun _ _ _ h => h) (by rfl) (by intro w' hSw; (try dsimp only at hSw); go_simp; (try (with_reducible rfl))) (by assumption) ?_
            simp only [Act.put, List.setIfInBounds_toArray, List.set_cons_zero, List.set_cons_succ]
            refine held_take 7 34 (.pointer (some ⟨w.heap.size, 1, none⟩)) rfl rfl (by kernel_rfl) (by kernel_rfl) (by kernel_rfl) (fun _ _ _ h => h) (by rfl) (by intro w' hSw; (try dsimp only at hSw); go_simp; (try (with_reducible rfl))) (by assumption) ?_
            simp only [Act.put, List.setIfInBounds_toArray, List.set_cons_zero, List.set_cons_succ]
            refine held_take 8 35 (.slice (some ⟨b, off, none⟩) l.length c) rfl rfl (by kernel_rfl) (by kernel_rfl) (by kernel_rfl) (fun _ _ _ h => h) (by rfl) (by intro w' hSw; (try dsimp only at hSw); go_simp; (try (with_reducible rfl))) (by assumption) ?_
            simp only [Act.put, List.setIfInBounds_toArray, List.set_cons_zero, List.set_cons_succ]
            refine held_take 9 36 (.int .i64 (j + 1 : Nat)) rfl rfl (by kernel_rfl) (by kernel_rfl) (by kernel_rfl) (fun _ _ _ h => h) (by rfl) (by intro w' hSw; (try dsimp only at hSw); go_simp; (try (with_reducible rfl))) (by assumption) ?_
            simp only [Act.put, List.setIfInBounds_toArray, List.set_cons_zero, List.set_cons_succ]
            refine held_take 10 37 (.int .i64 j) rfl rfl (by kernel_rfl) (by kernel_rfl) (by kernel_rfl) (fun _ _ _ h => h) (by rfl) (by intro w' hSw; (try dsimp only at hSw); go_simp; (first | done | with_reducible rfl | (first | done | with_reducible rfl | omega | (simp; done) | (rw [IntKind.wrap_i64]; omega) | (simp; omega)))) (by assumption) ?_
            simp only [Act.put, List.setIfInBounds_toArray, List.set_cons_zero, List.set_cons_succ]
            refine held_take 11 38 (.pointer (some ⟨b, off + j * 12, none⟩)) rfl rfl (by kernel_rfl) (by kernel_rfl) (by kernel_rfl) (fun _ _ _ h => h) (by rfl) (by intro w' hSw; (try dsimp only at hSw); go_simp; (try (with_reducible rfl))) (by assumption) ?_
            simp only [Act.put, List.setIfInBounds_toArray, List.set_cons_zero, List.set_cons_succ]
            refine held_take 12 39 (.pointer (some ⟨b, off + j * 12, none⟩)) rfl rfl (by kernel_rfl) (by kernel_rfl) (by kernel_rfl) (fun _ _ _ h => h) (by rfl) (by intro w' hSw; (try dsimp only at hSw); go_simp; (try (with_reducible rfl))) (by assumption) ?_
            simp only [Act.put, List.setIfInBounds_toArray, List.set_cons_zero, List.set_cons_succ]
            refine held_take 13 40 (.pointer (some ⟨b, off + j * 12, none⟩)) rfl rfl (by kernel_rfl) (by kernel_rfl) (by kernel_rfl) (fun _ _ _ h => h) (by rfl) (by intro w' hSw; (try dsimp only at hSw); go_simp; (try (with_reducible rfl))) (by assumption) ?_
            simp only [Act.put, List.setIfInBounds_toArray, List.set_cons_zero, List.set_cons_succ]
            refine held_take 14 41 (.string y.pod.id) rfl rfl (by kernel_rfl) (by kernel_rfl) (by kernel_rfl) (fun _ _ _ h => h) (by rfl) (by intro w' hSw; (try dsimp only at hSw); go_simp; (try (with_reducible rfl))) (by assumption) ?_
            simp only [Act.put, List.setIfInBounds_toArray, List.set_cons_zero, List.set_cons_succ]
            refine held_take 15 42 (.pointer (some ⟨N, 0, none⟩)) rfl rfl (by kernel_rfl) (by kernel_rfl) (by kernel_rfl) (fun _ _ _ h => h) (by rfl) (by intro w' hSw; (try dsimp only at hSw); go_simp; (try (with_reducible rfl))) (by assumption) ?_
            simp only [Act.put, List.setIfInBounds_toArray, List.set_cons_zero, List.set_cons_succ]
            refine held_take 16 43 (.pointer (some ⟨N, 0, none⟩)) rfl rfl (by kernel_rfl) (by kernel_rfl) (by kernel_rfl) (fun _ _ _ h => h) (by rfl) (by intro w' hSw; (try dsimp only at hSw); go_simp; (try (with_reducible rfl))) (by assumption) ?_
            simp only [Act.put, List.setIfInBounds_toArray, List.set_cons_zero, List.set_cons_succ]
            refine held_take 17 44 (.string x.pod.id) rfl rfl (by kernel_rfl) (by kernel_rfl) (by kernel_rfl) (fun _ _ _ h => h) (by rfl) (by intro w' hSw; (try dsimp only at hSw); go_simp; (try (with_reducible rfl))) (by assumption) ?_
            simp only [Act.put, List.setIfInBounds_toArray, List.set_cons_zero, List.set_cons_succ]
            refine held_take 18 45 (.bool true) rfl rfl (by kernel_rfl) (by kernel_rfl) (by kernel_rfl) (fun _ _ _ h => h) (by rfl) (by intro w' hSw; (try dsimp only at hSw); go_simp; (first | done | with_reducible rfl | (have hh := HBL.out; unfold blt at hh; simp [hh]))) (by assumption) ?_
            simp only [Act.put, List.setIfInBounds_toArray, List.set_cons_zero, List.set_cons_succ]
            refine held_take 19 46 (.bool true) rfl rfl (by kernel_rfl) (by kernel_rfl) (by kernel_rfl) (fun _ _ _ h => h) (by rfl) (by intro w' hSw; (try dsimp only at hSw); go_simp; (try (with_reducible rfl))) (by assumption) ?_
            simp only [Act.put, List.setIfInBounds_toArray, List.set_cons_zero, List.set_cons_succ]
            refine held_take 20 47 (.bool true) rfl rfl (by kernel_rfl) (by kernel_rfl) (by kernel_rfl) (fun _ _ _ h => h) (by rfl) (by intro w' hSw; (try dsimp only at hSw); go_simp; (try (with_reducible rfl))) (by assumption) ?_
            simp only [Act.put, List.setIfInBounds_toArray, List.set_cons_zero, List.set_cons_succ]
            refine wpAnyH_done (by kernel_rfl) ?_ _
            clear hHeld
            go_wp2_with fail
            go_ret
            exact ⟨ret_bool HN.out.symm, HQ.out.bel⟩
          · have HYS := Lib.hid (HY2.out hbl)
            have HRE := Lib.hid hre
            clear hre
            have HBL := Lib.hid hbl
            clear hbl
            have HE := Lib.hid HE.out.drew
            have HQ := Lib.hid HQ.out.drew
            have HRX := Lib.hid HRX.out.drew
            refine wp_region_held_drew (S := (fun w' => w'.cell? ⟨N, 0, none⟩ = some (.string x.pod.id) ∧ w'.cell? ⟨N, 1, none⟩ = some (.int .i64 x.pod.prio) ∧ w'.cell? ⟨N, 2, none⟩ = some (.bool x.pod.crit) ∧ w'.cell? ⟨N, 3, none⟩ = some (.int .i64 x.pod.q0) ∧ w'.cell? ⟨N, 4, none⟩ = some (.int .i64 x.pod.q1) ∧ w'.cell? ⟨N, 5, none⟩ = some (.int .i64 x.pod.q2) ∧ w'.cell? ⟨N, 6, none⟩ = some (.int .i64 x.pod.l0) ∧ w'.cell? ⟨N, 7, none⟩ = some (.int .i64 x.pod.l1) ∧ w'.cell? ⟨N, 8, none⟩ = some (.int .i64 x.pod.l2) ∧ w'.cell? ⟨N, 9, none⟩ = some (.string x.pod.image) ∧ w'.cell? ⟨N, 10, none⟩ = some (.int .i64 x.pod.size) ∧ w'.cell? ⟨N, 11, none⟩ = some (.int .i64 x.phase) ∧ w'.cell? ⟨w.heap.size, 1, none⟩ = some (.slice (some ⟨b, off, none⟩) l.length c) ∧ w'.cell? ⟨b, off + j * 12, none⟩ = some (.string y.pod.id))) (by kernel_rfl) (⟨HE.out.cell 0, HE.out.cell 1, HE.out.cell 2, HE.out.cell 3, HE.out.cell 4, HE.out.cell 5, HE.out.cell 6, HE.out.cell 7, HE.out.cell 8, HE.out.cell 9, HE.out.cell 10, HE.out.cell 11, HQ.out.sb.cell 1, (HRX.out.enAt (Below.refl _ _) HYJ.out).1⟩) (fun hHeld => ?_)
            generalize W5.drew = wd at *
            refine held_take 0 27 (.agg #[.string x.pod.id, .int .i64 x.pod.prio, .bool x.pod.crit, .int .i64 x.pod.q0, .int .i64 x.pod.q1, .int .i64 x.pod.q2, .int .i64 x.pod.l0, .int .i64 x.pod.l1, .int .i64 x.pod.l2, .string x.pod.image, .int .i64 x.pod.size, .int .i64 x.phase]) rfl rfl (by kernel_rfl) (by kernel_rfl) (by kernel_rfl) (fun _ _ _ h => h) (by rfl) (by intro w' hSw; (try dsimp only at hSw); go_simp; (try (with_reducible rfl))) (by assumption) ?_
            simp only [Act.put, List.setIfInBounds_toArray, List.set_cons_zero, List.set_cons_succ]
            refine held_call 1 28 rfl rfl (by kernel_rfl) (by rfl) (fun K hK => ?_)
            go_simp
            go_at_call 34; with_reducible refine (rightE_any HRE.out _ HWX.out).mono ?_; rintro e w6 ⟨rfl, hb⟩
            have HE := Lib.hid (HE.out.belowAll hb)
            have HQ := Lib.hid (HQ.out.below hb)
            have HRX := Lib.hid (HRX.out.below hb)
            clear hb
            refine hK _ _ (⟨HE.out.cell 0, HE.out.cell 1, HE.out.cell 2, HE.out.cell 3, HE.out.cell 4, HE.out.cell 5, HE.out.cell 6, HE.out.cell 7, HE.out.cell 8, HE.out.cell 9, HE.out.cell 10, HE.out.cell 11, HQ.out.sb.cell 1, (HRX.out.enAt (Below.refl _ _) HYJ.out).1⟩) ?_
            have hHeld := (show w6.cell? ⟨N, 0, none⟩ = some (.string x.pod.id) ∧ w6.cell? ⟨N, 1, none⟩ = some (.int .i64 x.pod.prio) ∧ w6.cell? ⟨N, 2, none⟩ = some (.bool x.pod.crit) ∧ w6.cell? ⟨N, 3, none⟩ = some (.int .i64 x.pod.q0) ∧ w6.cell? ⟨N, 4, none⟩ = some (.int .i64 x.pod.q1) ∧ w6.cell? ⟨N, 5, none⟩ = some (.int .i64 x.pod.q2) ∧ w6.cell? ⟨N, 6, none⟩ = some (.int .i64 x.pod.l0) ∧ w6.cell? ⟨N, 7, none⟩ = some (.int .i64 x.pod.l1) ∧ w6.cell? ⟨N, 8, none⟩ = some (.int .i64 x.pod.l2) ∧ w6.cell? ⟨N, 9, none⟩ = some (.string x.pod.image) ∧ w6.cell? ⟨N, 10, none⟩ = some (.int .i64 x.pod.size) ∧ w6.cell? ⟨N, 11, none⟩ = some (.int .i64 x.phase) ∧ w6.cell? ⟨w.heap.size, 1, none⟩ = some (.slice (some ⟨b, off, none⟩) l.length c) ∧ w6.cell? ⟨b, off + j * 12, none⟩ = some (.string y.pod.id) from ⟨HE.out.cell 0, HE.out.cell 1, HE.out.cell 2, HE.out.cell 3, HE.out.cell 4, HE.out.cell 5, HE.out.cell 6, HE.out.cell 7, HE.out.cell 8, HE.out.cell 9, HE.out.cell 10, HE.out.cell 11, HQ.out.sb.cell 1, (HRX.out.enAt (Below.refl _ _) HYJ.out).1⟩)
            clear hK K
            simp only [Act.put, List.setIfInBounds_toArray, List.set_cons_zero, List.set_cons_succ]
            refine held_take 2 29 (.bool false) rfl rfl (by kernel_rfl) (by kernel_rfl) (by kernel_rfl) (fun _ _ _ h => h) (by rfl) (by intro w' hSw; (try dsimp only at hSw); go_simp; (try (with_reducible rfl))) (by assumption) ?_
            simp only [Act.put, List.setIfInBounds_toArray, List.set_cons_zero, List.set_cons_succ]
            refine held_take 3 30 (.bool false) rfl rfl (by kernel_rfl) (by kernel_rfl) (by kernel_rfl) (fun _ _ _ h => h) (by rfl) (by intro w' hSw; (try dsimp only at hSw); go_simp; (try (with_reducible rfl))) (by assumption) ?_
            simp only [Act.put, List.setIfInBounds_toArray, List.set_cons_zero, List.set_cons_succ]
            refine held_take 4 31 (.int .i64 (j + 1 : Nat)) rfl rfl (by kernel_rfl) (by kernel_rfl) (by kernel_rfl) (fun _ _ _ h => h) (by rfl) (by intro w' hSw; (try dsimp only at hSw); go_simp; (try (with_reducible rfl))) (by assumption) ?_
            simp only [Act.put, List.setIfInBounds_toArray, List.set_cons_zero, List.set_cons_succ]
            refine held_take 5 32 (.bool true) rfl rfl (by kernel_rfl) (by kernel_rfl) (by kernel_rfl) (fun _ _ _ h => h) (by rfl) (by intro w' hSw; (try dsimp only at hSw); go_simp; (first | done | with_reducible rfl | (first | done | with_reducible rfl | omega | (simp; done) | (rw [IntKind.wrap_i64]; omega) | (simp; omega)))) (by assumption) ?_
            simp only [Act.put, List.setIfInBounds_toArray, List.set_cons_zero, List.set_cons_succ]
            refine held_take 6 33 (.bool true) rfl rfl (by kernel_rfl) (by kernel_rfl) (by kernel_rfl) (fun _ _ _ h => h) (by rfl) (by intro w' hSw; (try dsimp only at hSw); go_simp; (try (with_reducible rfl))) (by assumption) ?_
            simp only [Act.put, List.setIfInBounds_toArray, List.set_cons_zero, List.set_cons_succ]
            refine held_take 7 34 (.pointer (some ⟨w.heap.size, 1, none⟩)) rfl rfl (by kernel_rfl) (by kernel_rfl) (by kernel_rfl) (fun _ _ _ h => h) (by rfl) (by intro w' hSw; (try dsimp only at hSw); go_simp; (try (with_reducible rfl))) (by assumption) ?_
            simp only [Act.put, List.setIfInBounds_toArray, List.set_cons_zero, List.set_cons_succ]
            refine held_take 8 35 (.slice (some ⟨b, off, none⟩) l.length c) rfl rfl (by kernel_rfl) (by kernel_rfl) (by kernel_rfl) (fun _ _ _ h => h) (by rfl) (by intro w' hSw; (try dsimp only at hSw); go_simp; (try (with_reducible rfl))) (by assumption) ?_
            simp only [Act.put, List.setIfInBounds_toArray, List.set_cons_zero, List.set_cons_succ]
            refine held_take 9 36 (.int .i64 (j + 1 : Nat)) rfl rfl (by kernel_rfl) (by kernel_rfl) (by kernel_rfl) (fun _ _ _ h => h) (by rfl) (by intro w' hSw; (try dsimp only at hSw); go_simp; (try (with_reducible rfl))) (by assumption) ?_
            simp only [Act.put, List.setIfInBounds_toArray, List.set_cons_zero, List.set_cons_succ]
            refine held_take 10 37 (.int .i64 j) rfl rfl (by kernel_rfl) (by kernel_rfl) (by kernel_rfl) (fun _ _ _ h => h) (by rfl) (by intro w' hSw; (try dsimp only at hSw); go_simp; (first | done | with_reducible rfl | (first | done | with_reducible rfl | omega | (simp; done) | (rw [IntKind.wrap_i64]; omega) | (simp; omega)))) (by assumption) ?_
            simp only [Act.put, List.setIfInBounds_toArray, List.set_cons_zero, List.set_cons_succ]
            refine held_take 11 38 (.pointer (some ⟨b, off + j * 12, none⟩)) rfl rfl (by kernel_rfl) (by kernel_rfl) (by kernel_rfl) (fun _ _ _ h => h) (by rfl) (by intro w' hSw; (try dsimp only at hSw); go_simp; (try (with_reducible rfl))) (by assumption) ?_
            simp only [Act.put, List.setIfInBounds_toArray, List.set_cons_zero, List.set_cons_succ]
            refine held_take 12 39 (.pointer (some ⟨b, off + j * 12, none⟩)) rfl rfl (by kernel_rfl) (by kernel_rfl) (by kernel_rfl) (fun _ _ _ h => h) (by rfl) (by intro w' hSw; (try dsimp only at hSw); go_simp; (try (with_reducible rfl))) (by assumption) ?_
            simp only [Act.put, List.setIfInBounds_toArray, List.set_cons_zero, List.set_cons_succ]
            refine held_take 13 40 (.pointer (some ⟨b, off + j * 12, none⟩)) rfl rfl (by kernel_rfl) (by kernel_rfl) (by kernel_rfl) (fun _ _ _ h => h) (by rfl) (by intro w' hSw; (try dsimp only at hSw); go_simp; (try (with_reducible rfl))) (by assumption) ?_
            simp only [Act.put, List.setIfInBounds_toArray, List.set_cons_zero, List.set_cons_succ]
            refine held_take 14 41 (.string y.pod.id) rfl rfl (by kernel_rfl) (by kernel_rfl) (by kernel_rfl) (fun _ _ _ h => h) (by rfl) (by intro w' hSw; (try dsimp only at hSw); go_simp; (try (with_reducible rfl))) (by assumption) ?_
            simp only [Act.put, List.setIfInBounds_toArray, List.set_cons_zero, List.set_cons_succ]
            refine held_take 15 42 (.pointer (some ⟨N, 0, none⟩)) rfl rfl (by kernel_rfl) (by kernel_rfl) (by kernel_rfl) (fun _ _ _ h => h) (by rfl) (by intro w' hSw; (try dsimp only at hSw); go_simp; (try (with_reducible rfl))) (by assumption) ?_
            simp only [Act.put, List.setIfInBounds_toArray, List.set_cons_zero, List.set_cons_succ]
            refine held_take 16 43 (.pointer (some ⟨N, 0, none⟩)) rfl rfl (by kernel_rfl) (by kernel_rfl) (by kernel_rfl) (fun _ _ _ h => h) (by rfl) (by intro w' hSw; (try dsimp only at hSw); go_simp; (try (with_reducible rfl))) (by assumption) ?_
            simp only [Act.put, List.setIfInBounds_toArray, List.set_cons_zero, List.set_cons_succ]
            refine held_take 17 44 (.string x.pod.id) rfl rfl (by kernel_rfl) (by kernel_rfl) (by kernel_rfl) (fun _ _ _ h => h) (by rfl) (by intro w' hSw; (try dsimp only at hSw); go_simp; (try (with_reducible rfl))) (by assumption) ?_
            simp only [Act.put, List.setIfInBounds_toArray, List.set_cons_zero, List.set_cons_succ]
            refine held_take 18 45 (.bool false) rfl rfl (by kernel_rfl) (by kernel_rfl) (by kernel_rfl) (fun _ _ _ h => h) (by rfl) (by intro w' hSw; (try dsimp only at hSw); go_simp; (first | done | with_reducible rfl | (have hh := HBL.out; unfold blt at hh; simp [hh]))) (by assumption) ?_
            simp only [Act.put, List.setIfInBounds_toArray, List.set_cons_zero, List.set_cons_succ]
            refine held_take 19 46 (.bool false) rfl rfl (by kernel_rfl) (by kernel_rfl) (by kernel_rfl) (fun _ _ _ h => h) (by rfl) (by intro w' hSw; (try dsimp only at hSw); go_simp; (try (with_reducible rfl))) (by assumption) ?_
            simp only [Act.put, List.setIfInBounds_toArray, List.set_cons_zero, List.set_cons_succ]
            refine held_take 20 47 (.bool false) rfl rfl (by kernel_rfl) (by kernel_rfl) (by kernel_rfl) (fun _ _ _ h => h) (by rfl) (by intro w' hSw; (try dsimp only at hSw); go_simp; (try (with_reducible rfl))) (by assumption) ?_
            simp only [Act.put, List.setIfInBounds_toArray, List.set_cons_zero, List.set_cons_succ]
            refine wpAnyH_done (by kernel_rfl) ?_ _
            clear hHeld
            go_wp2_with fail
            go_roundw
            case rel => exact ⟨j + 1 + 1, by omega, by go_num, HYS.out, HQ.out⟩
            case measure => simp [intOf]; omega
    · obtain rfl : i = l.length := by omega
      have dk : decide ((l.length : Int) < (l.length : Int)) = false := by simp
      have HN : Hid (v = true) := HV.out.2 ⟨HLE.out.1, HLE.out.2.1, HLE.out.2.2, HOK.out⟩
      have cs := HQ.out.sb.cell
      go_wp2_with fail
      go_ret
      exact ⟨ret_bool HN.out.symm, HQ.out.bel⟩
set_option maxRecDepth 100000 in
set_option maxHeartbeats 8000000 in
theorem refStRightV_any {rd : Int} {l : List En} {v : Bool} (hv : v = true ↔ RightS rd l) (A : Option Addr) (c : Nat) (o0 o1 o2 : Bool) (w : World) (hr : Rds w encN A l) (hw : ∀ x ∈ l, x.pod.Wf) (hm : l.length ≤ 9223372036854775807) :
    Calls Tryd.prog 15 #[.agg #[.int .i64 rd, .slice A l.length c, .bool o0, .bool o1, .bool o2]] w fun e w' => e = .returned (.bool v) ∧ Below w.heap.size w w' := by
  have HQ := Lib.hid (SQ.new rd A l c o0 o1 o2 w)
  have HR := Lib.hid hr
  have HV := Lib.hid hv
  have HW := Lib.hid hw
  clear hr hv hw
  by_cases h1 : rd < 0
  · have HN : Hid (v = false) := RightS.no HV.out fun h => by have := h.lo; omega
    have d1 : decide (rd < 0) = true := decide_eq_true h1
    clear h1
    go_enter Tryd.func15, Tryd.ntmps15
    have cs := HQ.out.sb.cell
    go_wp2_with fail
    go_ret
    exact ⟨ret_bool HN.out.symm, HQ.out.bel⟩
  have d1 : decide (rd < 0) = false := decide_eq_false h1
  by_cases h2 : 1099511627776 < rd
  · have HN : Hid (v = false) := RightS.no HV.out fun h => by have := h.hi; omega
    have d2 : decide (1099511627776 < rd) = true := decide_eq_true h2
    clear h1 h2
    go_enter Tryd.func15, Tryd.ntmps15
    have cs := HQ.out.sb.cell
    go_wp2_with fail
    go_ret
    exact ⟨ret_bool HN.out.symm, HQ.out.bel⟩
  have d2 : decide (1099511627776 < rd) = false := decide_eq_false h2
  by_cases h3 : 64 < l.length
  · have HN : Hid (v = false) := RightS.no HV.out fun h => by have := h.len; omega
    have d3 : decide (64 < l.length) = true := decide_eq_true h3
    have d4 : decide ((64 : Int) < (l.length : Int)) = true := decide_eq_true (by omega)
    clear h1 h2 h3
    go_enter Tryd.func15, Tryd.ntmps15
    have cs := HQ.out.sb.cell
    go_wp2_with fail
    go_ret
    exact ⟨ret_bool HN.out.symm, HQ.out.bel⟩
  have d3 : decide (64 < l.length) = false := decide_eq_false h3
  have d4 : decide ((64 : Int) < (l.length : Int)) = false := decide_eq_false (by omega)
  have HLE := Lib.hid (show 0 ≤ rd ∧ rd ≤ 1099511627776 ∧ l.length ≤ 64 from ⟨by omega, by omega, by omega⟩)
  clear h1 h2
  go_enter Tryd.func15, Tryd.ntmps15
  have cs := HQ.out.sb.cell
  go_wp2_with fail
  clear cs
  generalize w.alloc (.cells #[.int .i64 rd, .slice A l.length c, .bool o0, .bool o1, .bool o2] 25) = w0 at *
  go_loopw [3] (fun ii wr => ∃ i : Nat, i ≤ l.length ∧ ii = .int .i64 i ∧ OkSTo l i ∧ SQ rd A l c o0 o1 o2 w wr) (fun ii _ => l.length - (intOf ii).toNat)
  case atStart => exact ⟨0, by omega, rfl, fun _ _ h => by omega, HQ.out⟩
  case round =>
    clear HQ
    obtain ⟨i, hi, rfl, hok, hq⟩ := hrel
    have HOK := Lib.hid hok
    have HQ := Lib.hid hq
    clear hok hq
    by_cases hlt : i < l.length
    · obtain ⟨b, off, hA, _⟩ := HR.out.en hlt
      obtain rfl : A = some ⟨b, off, none⟩ := hA
      have dk : decide ((i : Int) < (l.length : Int)) = true := decide_eq_true (by omega)
      have dk2 : (i : Int) < (l.length : Int) := by omega
      have HXI := Lib.hid (List.getElem?_eq_getElem hlt)
      have HWX := Lib.hid (HW.out _ (List.getElem_mem hlt))
      have HNo := Lib.hid (show ¬ OkS l i hlt → v = false from fun h => RightS.no HV.out fun hf => h (hf.ok i hlt hlt))
      have HYes := Lib.hid (fun a : OkS l i hlt => HOK.out.snoc hlt a)
      have HMk := Lib.hid (show rightE l[i] = true → (∀ j (hj : j + 1 = i), blt (l[j]'(by omega)).pod.id l[i].pod.id = true) → OkS l i hlt from fun a1 a2 => ⟨a1, a2⟩)
      have HUn := Lib.hid (show OkS l i hlt → rightE l[i] = true ∧ ∀ j (hj : j + 1 = i), blt (l[j]'(by omega)).pod.id l[i].pod.id = true from fun h => ⟨h.r, h.s⟩)
      generalize l[i] = x at *
      obtain ⟨x0, x1, x2, x3, x4, x5, x6, x7, x8, x9, x10, x11⟩ := HR.out.enAt HQ.out.bel HXI.out
      have cs := HQ.out.sb.cell
      have HE := Lib.hid (Blk.new wr 46 #[.string x.pod.id, .int .i64 x.pod.prio, .bool x.pod.crit, .int .i64 x.pod.q0, .int .i64 x.pod.q1, .int .i64 x.pod.q2, .int .i64 x.pod.l0, .int .i64 x.pod.l1, .int .i64 x.pod.l2, .string x.pod.image, .int .i64 x.pod.size, .int .i64 x.phase])
      have HRX := Lib.hid ((HR.out.below HQ.out.bel).alloc (.cells #[.string x.pod.id, .int .i64 x.pod.prio, .bool x.pod.crit, .int .i64 x.pod.q0, .int .i64 x.pod.q1, .int .i64 x.pod.q2, .int .i64 x.pod.l0, .int .i64 x.pod.l1, .int .i64 x.pod.l2, .string x.pod.image, .int .i64 x.pod.size, .int .i64 x.phase] 46))
      have HQ := Lib.hid (HQ.out.alloc (.cells #[.string x.pod.id, .int .i64 x.pod.prio, .bool x.pod.crit, .int .i64 x.pod.q0, .int .i64 x.pod.q1, .int .i64 x.pod.q2, .int .i64 x.pod.l0, .int .i64 x.pod.l1, .int .i64 x.pod.l2, .string x.pod.image, .int .i64 x.pod.size, .int .i64 x.phase] 46))
      go_wp2_with fail
      clear cs x0 x1 x2 x3 x4 x5 x6 x7 x8 x9 x10 x11
      generalize wr.heap.size = N at *
      generalize wr.alloc (.cells #[.string x.pod.id, .int .i64 x.pod.prio, .bool x.pod.crit, .int .i64 x.pod.q0, .int .i64 x.pod.q1, .int .i64 x.pod.q2, .int .i64 x.pod.l0, .int .i64 x.pod.l1, .int .i64 x.pod.l2, .string x.pod.image, .int .i64 x.pod.size, .int .i64 x.phase] 46) = W5 at *
      cases hre : rightE x
      · have HN := Lib.hid (HNo.out fun h => by have := (HUn.out h).1; rw [hre] at this; cases this)
        cases hpr : x.pod.right
        · have HPR := Lib.hid hpr
          clear hpr hre
          have HE := Lib.hid HE.out.drew
          have HQ := Lib.hid HQ.out.drew
          have HRX := Lib.hid HRX.out.drew
          refine wp_region_held_drew (S := (fun w' => w'.cell? ⟨N, 0, none⟩ = some (.string x.pod.id) ∧ w'.cell? ⟨N, 1, none⟩ = some (.int .i64 x.pod.prio) ∧ w'.cell? ⟨N, 2, none⟩ = some (.bool x.pod.crit) ∧ w'.cell? ⟨N, 3, none⟩ = some (.int .i64 x.pod.q0) ∧ w'.cell? ⟨N, 4, none⟩ = some (.int .i64 x.pod.q1) ∧ w'.cell? ⟨N, 5, none⟩ = some (.int .i64 x.pod.q2) ∧ w'.cell? ⟨N, 6, none⟩ = some (.int .i64 x.pod.l0) ∧ w'.cell? ⟨N, 7, none⟩ = some (.int .i64 x.pod.l1) ∧ w'.cell? ⟨N, 8, none⟩ = some (.int .i64 x.pod.l2) ∧ w'.cell? ⟨N, 9, none⟩ = some (.string x.pod.image) ∧ w'.cell? ⟨N, 10, none⟩ = some (.int .i64 x.pod.size) ∧ w'.cell? ⟨N, 11, none⟩ = some (.int .i64 x.phase) ∧ w'.cell? ⟨w.heap.size, 1, none⟩ = some (.slice (some ⟨b, off, none⟩) l.length c))) (by kernel_rfl) (⟨HE.out.cell 0, HE.out.cell 1, HE.out.cell 2, HE.out.cell 3, HE.out.cell 4, HE.out.cell 5, HE.out.cell 6, HE.out.cell 7, HE.out.cell 8, HE.out.cell 9, HE.out.cell 10, HE.out.cell 11, HQ.out.sb.cell 1⟩) (fun hHeld => ?_)
          generalize W5.drew = wd at *
          refine held_take 0 31 (.pointer (some ⟨N, 0, none⟩)) rfl rfl (by kernel_rfl) (by kernel_rfl) (by kernel_rfl) (fun _ _ _ h => h) (by rfl) (by intro w' hSw; (try dsimp only at hSw); go_simp; (try (with_reducible rfl))) (by assumption) ?_
          simp only [Act.put, List.setIfInBounds_toArray, List.set_cons_zero, List.set_cons_succ]
          refine held_take 1 32 (.agg #[.string x.pod.id, .int .i64 x.pod.prio, .bool x.pod.crit, .int .i64 x.pod.q0, .int .i64 x.pod.q1, .int .i64 x.pod.q2, .int .i64 x.pod.l0, .int .i64 x.pod.l1, .int .i64 x.pod.l2, .string x.pod.image, .int .i64 x.pod.size]) rfl rfl (by kernel_rfl) (by kernel_rfl) (by kernel_rfl) (fun _ _ _ h => h) (by rfl) (by intro w' hSw; (try dsimp only at hSw); go_simp; (try (with_reducible rfl))) (by assumption) ?_
          simp only [Act.put, List.setIfInBounds_toArray, List.set_cons_zero, List.set_cons_succ]
          refine held_call 2 33 rfl rfl (by kernel_rfl) (by rfl) (fun K hK => ?_)
          go_simp
          go_at_call 22; with_reducible refine (rightV_any HPR.out _ HWX.out).mono ?_; rintro e w6 ⟨rfl, hb⟩
          have HE := Lib.hid (HE.out.belowAll hb)
          have HQ := Lib.hid (HQ.out.below hb)
          have HRX := Lib.hid (HRX.out.below hb)
          clear hb
          refine hK _ _ (⟨HE.out.cell 0, HE.out.cell 1, HE.out.cell 2, HE.out.cell 3, HE.out.cell 4, HE.out.cell 5, HE.out.cell 6, HE.out.cell 7, HE.out.cell 8, HE.out.cell 9, HE.out.cell 10, HE.out.cell 11, HQ.out.sb.cell 1⟩) ?_
          have hHeld := (show w6.cell? ⟨N, 0, none⟩ = some (.string x.pod.id) ∧ w6.cell? ⟨N, 1, none⟩ = some (.int .i64 x.pod.prio) ∧ w6.cell? ⟨N, 2, none⟩ = some (.bool x.pod.crit) ∧ w6.cell? ⟨N, 3, none⟩ = some (.int .i64 x.pod.q0) ∧ w6.cell? ⟨N, 4, none⟩ = some (.int .i64 x.pod.q1) ∧ w6.cell? ⟨N, 5, none⟩ = some (.int .i64 x.pod.q2) ∧ w6.cell? ⟨N, 6, none⟩ = some (.int .i64 x.pod.l0) ∧ w6.cell? ⟨N, 7, none⟩ = some (.int .i64 x.pod.l1) ∧ w6.cell? ⟨N, 8, none⟩ = some (.int .i64 x.pod.l2) ∧ w6.cell? ⟨N, 9, none⟩ = some (.string x.pod.image) ∧ w6.cell? ⟨N, 10, none⟩ = some (.int .i64 x.pod.size) ∧ w6.cell? ⟨N, 11, none⟩ = some (.int .i64 x.phase) ∧ w6.cell? ⟨w.heap.size, 1, none⟩ = some (.slice (some ⟨b, off, none⟩) l.length c) from ⟨HE.out.cell 0, HE.out.cell 1, HE.out.cell 2, HE.out.cell 3, HE.out.cell 4, HE.out.cell 5, HE.out.cell 6, HE.out.cell 7, HE.out.cell 8, HE.out.cell 9, HE.out.cell 10, HE.out.cell 11, HQ.out.sb.cell 1⟩)
          clear hK K
          simp only [Act.put, List.setIfInBounds_toArray, List.set_cons_zero, List.set_cons_succ]
          refine held_take 3 34 (.bool true) rfl rfl (by kernel_rfl) (by kernel_rfl) (by kernel_rfl) (fun _ _ _ h => h) (by rfl) (by intro w' hSw; (try dsimp only at hSw); go_simp; (try (with_reducible rfl))) (by assumption) ?_
          simp only [Act.put, List.setIfInBounds_toArray, List.set_cons_zero, List.set_cons_succ]
          refine held_take 4 35 (.bool true) rfl rfl (by kernel_rfl) (by kernel_rfl) (by kernel_rfl) (fun _ _ _ h => h) (by rfl) (by intro w' hSw; (try dsimp only at hSw); go_simp; (try (with_reducible rfl))) (by assumption) ?_
          simp only [Act.put, List.setIfInBounds_toArray, List.set_cons_zero, List.set_cons_succ]
          refine held_skip 5 36 rfl rfl (by kernel_rfl) (by kernel_rfl) (by kernel_rfl) (fun _ _ _ h => h) (by rfl) (by assumption) ?_
          simp only [Act.put, List.setIfInBounds_toArray, List.set_cons_zero, List.set_cons_succ]
          refine held_skip 6 37 rfl rfl (by kernel_rfl) (by kernel_rfl) (by kernel_rfl) (fun _ _ _ h => h) (by rfl) (by assumption) ?_
          simp only [Act.put, List.setIfInBounds_toArray, List.set_cons_zero, List.set_cons_succ]
          refine held_skip 7 38 rfl rfl (by kernel_rfl) (by kernel_rfl) (by kernel_rfl) (fun _ _ _ h => h) (by rfl) (by assumption) ?_
          simp only [Act.put, List.setIfInBounds_toArray, List.set_cons_zero, List.set_cons_succ]
          refine held_take 8 39 (.bool true) rfl rfl (by kernel_rfl) (by kernel_rfl) (by kernel_rfl) (fun _ _ _ h => h) (by rfl) (by intro w' hSw; (try dsimp only at hSw); go_simp; (try (with_reducible rfl))) (by assumption) ?_
          simp only [Act.put, List.setIfInBounds_toArray, List.set_cons_zero, List.set_cons_succ]
          refine held_take 9 40 (.bool true) rfl rfl (by kernel_rfl) (by kernel_rfl) (by kernel_rfl) (fun _ _ _ h => h) (by rfl) (by intro w' hSw; (try dsimp only at hSw); go_simp; (try (with_reducible rfl))) (by assumption) ?_
          simp only [Act.put, List.setIfInBounds_toArray, List.set_cons_zero, List.set_cons_succ]
          refine held_skip 10 41 rfl rfl (by kernel_rfl) (by kernel_rfl) (by kernel_rfl) (fun _ _ _ h => h) (by rfl) (by assumption) ?_
          simp only [Act.put, List.setIfInBounds_toArray, List.set_cons_zero, List.set_cons_succ]
          refine held_skip 11 42 rfl rfl (by kernel_rfl) (by kernel_rfl) (by kernel_rfl) (fun _ _ _ h => h) (by rfl) (by assumption) ?_
          simp only [Act.put, List.setIfInBounds_toArray, List.set_cons_zero, List.set_cons_succ]
          refine held_skip 12 43 rfl rfl (by kernel_rfl) (by kernel_rfl) (by kernel_rfl) (fun _ _ _ h => h) (by rfl) (by assumption) ?_
          simp only [Act.put, List.setIfInBounds_toArray, List.set_cons_zero, List.set_cons_succ]
          refine held_take 13 44 (.bool true) rfl rfl (by kernel_rfl) (by kernel_rfl) (by kernel_rfl) (fun _ _ _ h => h) (by rfl) (by intro w' hSw; (try dsimp only at hSw); go_simp; (try (with_reducible rfl))) (by assumption) ?_
          simp only [Act.put, List.setIfInBounds_toArray, List.set_cons_zero, List.set_cons_succ]
          refine held_take 14 45 (.bool true) rfl rfl (by kernel_rfl) (by kernel_rfl) (by kernel_rfl) (fun _ _ _ h => h) (by rfl) (by intro w' hSw; (try dsimp only at hSw); go_simp; (try (with_reducible rfl))) (by assumption) ?_
          simp only [Act.put, List.setIfInBounds_toArray, List.set_cons_zero, List.set_cons_succ]
          refine held_skip 15 46 rfl rfl (by kernel_rfl) (by kernel_rfl) (by kernel_rfl) (fun _ _ _ h => h) (by rfl) (by assumption) ?_
          simp only [Act.put, List.setIfInBounds_toArray, List.set_cons_zero, List.set_cons_succ]
          refine held_skip 16 47 rfl rfl (by kernel_rfl) (by kernel_rfl) (by kernel_rfl) (fun _ _ _ h => h) (by rfl) (by assumption) ?_
          simp only [Act.put, List.setIfInBounds_toArray, List.set_cons_zero, List.set_cons_succ]
          refine held_skip 17 48 rfl rfl (by kernel_rfl) (by kernel_rfl) (by kernel_rfl) (fun _ _ _ h => h) (by rfl) (by assumption) ?_
          simp only [Act.put, List.setIfInBounds_toArray, List.set_cons_zero, List.set_cons_succ]
          refine held_skip 18 49 rfl rfl (by kernel_rfl) (by kernel_rfl) (by kernel_rfl) (fun _ _ _ h => h) (by rfl) (by assumption) ?_
          simp only [Act.put, List.setIfInBounds_toArray, List.set_cons_zero, List.set_cons_succ]
          refine held_skip 19 50 rfl rfl (by kernel_rfl) (by kernel_rfl) (by kernel_rfl) (fun _ _ _ h => h) (by rfl) (by assumption) ?_
          simp only [Act.put, List.setIfInBounds_toArray, List.set_cons_zero, List.set_cons_succ]
          refine held_skip 20 51 rfl rfl (by kernel_rfl) (by kernel_rfl) (by kernel_rfl) (fun _ _ _ h => h) (by rfl) (by assumption) ?_
          simp only [Act.put, List.setIfInBounds_toArray, List.set_cons_zero, List.set_cons_succ]
          refine held_skip 21 52 rfl rfl (by kernel_rfl) (by kernel_rfl) (by kernel_rfl) (fun _ _ _ h => h) (by rfl) (by assumption) ?_
          simp only [Act.put, List.setIfInBounds_toArray, List.set_cons_zero, List.set_cons_succ]
          refine held_skip 22 53 rfl rfl (by kernel_rfl) (by kernel_rfl) (by kernel_rfl) (fun _ _ _ h => h) (by rfl) (by assumption) ?_
          simp only [Act.put, List.setIfInBounds_toArray, List.set_cons_zero, List.set_cons_succ]
          refine held_skip 23 54 rfl rfl (by kernel_rfl) (by kernel_rfl) (by kernel_rfl) (fun _ _ _ h => h) (by rfl) (by assumption) ?_
          simp only [Act.put, List.setIfInBounds_toArray, List.set_cons_zero, List.set_cons_succ]
          refine held_skip 24 55 rfl rfl (by kernel_rfl) (by kernel_rfl) (by kernel_rfl) (fun _ _ _ h => h) (by rfl) (by assumption) ?_
          simp only [Act.put, List.setIfInBounds_toArray, List.set_cons_zero, List.set_cons_succ]
          refine held_skip 25 56 rfl rfl (by kernel_rfl) (by kernel_rfl) (by kernel_rfl) (fun _ _ _ h => h) (by rfl) (by assumption) ?_
          simp only [Act.put, List.setIfInBounds_toArray, List.set_cons_zero, List.set_cons_succ]
          refine held_skip 26 57 rfl rfl (by kernel_rfl) (by kernel_rfl) (by kernel_rfl) (fun _ _ _ h => h) (by rfl) (by assumption) ?_
          simp only [Act.put, List.setIfInBounds_toArray, List.set_cons_zero, List.set_cons_succ]
          refine held_skip 27 58 rfl rfl (by kernel_rfl) (by kernel_rfl) (by kernel_rfl) (fun _ _ _ h => h) (by rfl) (by assumption) ?_
          simp only [Act.put, List.setIfInBounds_toArray, List.set_cons_zero, List.set_cons_succ]
          refine held_skip 28 59 rfl rfl (by kernel_rfl) (by kernel_rfl) (by kernel_rfl) (fun _ _ _ h => h) (by rfl) (by assumption) ?_
          simp only [Act.put, List.setIfInBounds_toArray, List.set_cons_zero, List.set_cons_succ]
          refine held_skip 29 60 rfl rfl (by kernel_rfl) (by kernel_rfl) (by kernel_rfl) (fun _ _ _ h => h) (by rfl) (by assumption) ?_
          simp only [Act.put, List.setIfInBounds_toArray, List.set_cons_zero, List.set_cons_succ]
          refine held_skip 30 61 rfl rfl (by kernel_rfl) (by kernel_rfl) (by kernel_rfl) (fun _ _ _ h => h) (by rfl) (by assumption) ?_
          simp only [Act.put, List.setIfInBounds_toArray, List.set_cons_zero, List.set_cons_succ]
          refine held_take 31 62 (.bool true) rfl rfl (by kernel_rfl) (by kernel_rfl) (by kernel_rfl) (fun _ _ _ h => h) (by rfl) (by intro w' hSw; (try dsimp only at hSw); go_simp; (try (with_reducible rfl))) (by assumption) ?_
          simp only [Act.put, List.setIfInBounds_toArray, List.set_cons_zero, List.set_cons_succ]
          refine wpAnyH_done (by kernel_rfl) ?_ _
          clear hHeld
          go_wp2_with fail
          go_ret
          exact ⟨ret_bool HN.out.symm, HQ.out.bel⟩
        · by_cases hp1 : x.phase < 1
          · have HPR := Lib.hid hpr
            have HP1 := Lib.hid hp1
            clear hpr hre hp1
            have HE := Lib.hid HE.out.drew
            have HQ := Lib.hid HQ.out.drew
            have HRX := Lib.hid HRX.out.drew
            refine wp_region_held_drew (S := (fun w' => w'.cell? ⟨N, 0, none⟩ = some (.string x.pod.id) ∧ w'.cell? ⟨N, 1, none⟩ = some (.int .i64 x.pod.prio) ∧ w'.cell? ⟨N, 2, none⟩ = some (.bool x.pod.crit) ∧ w'.cell? ⟨N, 3, none⟩ = some (.int .i64 x.pod.q0) ∧ w'.cell? ⟨N, 4, none⟩ = some (.int .i64 x.pod.q1) ∧ w'.cell? ⟨N, 5, none⟩ = some (.int .i64 x.pod.q2) ∧ w'.cell? ⟨N, 6, none⟩ = some (.int .i64 x.pod.l0) ∧ w'.cell? ⟨N, 7, none⟩ = some (.int .i64 x.pod.l1) ∧ w'.cell? ⟨N, 8, none⟩ = some (.int .i64 x.pod.l2) ∧ w'.cell? ⟨N, 9, none⟩ = some (.string x.pod.image) ∧ w'.cell? ⟨N, 10, none⟩ = some (.int .i64 x.pod.size) ∧ w'.cell? ⟨N, 11, none⟩ = some (.int .i64 x.phase) ∧ w'.cell? ⟨w.heap.size, 1, none⟩ = some (.slice (some ⟨b, off, none⟩) l.length c))) (by kernel_rfl) (⟨HE.out.cell 0, HE.out.cell 1, HE.out.cell 2, HE.out.cell 3, HE.out.cell 4, HE.out.cell 5, HE.out.cell 6, HE.out.cell 7, HE.out.cell 8, HE.out.cell 9, HE.out.cell 10, HE.out.cell 11, HQ.out.sb.cell 1⟩) (fun hHeld => ?_)
            generalize W5.drew = wd at *
            refine held_take 0 31 (.pointer (some ⟨N, 0, none⟩)) rfl rfl (by kernel_rfl) (by kernel_rfl) (by kernel_rfl) (fun _ _ _ h => h) (by rfl) (by intro w' hSw; (try dsimp only at hSw); go_simp; (try (with_reducible rfl))) (by assumption) ?_
            simp only [Act.put, List.setIfInBounds_toArray, List.set_cons_zero, List.set_cons_succ]
            refine held_take 1 32 (.agg #[.string x.pod.id, .int .i64 x.pod.prio, .bool x.pod.crit, .int .i64 x.pod.q0, .int .i64 x.pod.q1, .int .i64 x.pod.q2, .int .i64 x.pod.l0, .int .i64 x.pod.l1, .int .i64 x.pod.l2, .string x.pod.image, .int .i64 x.pod.size]) rfl rfl (by kernel_rfl) (by kernel_rfl) (by kernel_rfl) (fun _ _ _ h => h) (by rfl) (by intro w' hSw; (try dsimp only at hSw); go_simp; (try (with_reducible rfl))) (by assumption) ?_
            simp only [Act.put, List.setIfInBounds_toArray, List.set_cons_zero, List.set_cons_succ]
            refine held_call 2 33 rfl rfl (by kernel_rfl) (by rfl) (fun K hK => ?_)
            go_simp
            go_at_call 22; with_reducible refine (rightV_any HPR.out _ HWX.out).mono ?_; rintro e w6 ⟨rfl, hb⟩
            have HE := Lib.hid (HE.out.belowAll hb)
            have HQ := Lib.hid (HQ.out.below hb)
            have HRX := Lib.hid (HRX.out.below hb)
            clear hb
            refine hK _ _ (⟨HE.out.cell 0, HE.out.cell 1, HE.out.cell 2, HE.out.cell 3, HE.out.cell 4, HE.out.cell 5, HE.out.cell 6, HE.out.cell 7, HE.out.cell 8, HE.out.cell 9, HE.out.cell 10, HE.out.cell 11, HQ.out.sb.cell 1⟩) ?_
            have hHeld := (show w6.cell? ⟨N, 0, none⟩ = some (.string x.pod.id) ∧ w6.cell? ⟨N, 1, none⟩ = some (.int .i64 x.pod.prio) ∧ w6.cell? ⟨N, 2, none⟩ = some (.bool x.pod.crit) ∧ w6.cell? ⟨N, 3, none⟩ = some (.int .i64 x.pod.q0) ∧ w6.cell? ⟨N, 4, none⟩ = some (.int .i64 x.pod.q1) ∧ w6.cell? ⟨N, 5, none⟩ = some (.int .i64 x.pod.q2) ∧ w6.cell? ⟨N, 6, none⟩ = some (.int .i64 x.pod.l0) ∧ w6.cell? ⟨N, 7, none⟩ = some (.int .i64 x.pod.l1) ∧ w6.cell? ⟨N, 8, none⟩ = some (.int .i64 x.pod.l2) ∧ w6.cell? ⟨N, 9, none⟩ = some (.string x.pod.image) ∧ w6.cell? ⟨N, 10, none⟩ = some (.int .i64 x.pod.size) ∧ w6.cell? ⟨N, 11, none⟩ = some (.int .i64 x.phase) ∧ w6.cell? ⟨w.heap.size, 1, none⟩ = some (.slice (some ⟨b, off, none⟩) l.length c) from ⟨HE.out.cell 0, HE.out.cell 1, HE.out.cell 2, HE.out.cell 3, HE.out.cell 4, HE.out.cell 5, HE.out.cell 6, HE.out.cell 7, HE.out.cell 8, HE.out.cell 9, HE.out.cell 10, HE.out.cell 11, HQ.out.sb.cell 1⟩)
            clear hK K
            simp only [Act.put, List.setIfInBounds_toArray, List.set_cons_zero, List.set_cons_succ]
            refine held_take 3 34 (.bool false) rfl rfl (by kernel_rfl) (by kernel_rfl) (by kernel_rfl) (fun _ _ _ h => h) (by rfl) (by intro w' hSw; (try dsimp only at hSw); go_simp; (try (with_reducible rfl))) (by assumption) ?_
            simp only [Act.put, List.setIfInBounds_toArray, List.set_cons_zero, List.set_cons_succ]
            refine held_take 4 35 (.bool false) rfl rfl (by kernel_rfl) (by kernel_rfl) (by kernel_rfl) (fun _ _ _ h => h) (by rfl) (by intro w' hSw; (try dsimp only at hSw); go_simp; (try (with_reducible rfl))) (by assumption) ?_
            simp only [Act.put, List.setIfInBounds_toArray, List.set_cons_zero, List.set_cons_succ]
            refine held_take 5 36 (.pointer (some ⟨N, 11, none⟩)) rfl rfl (by kernel_rfl) (by kernel_rfl) (by kernel_rfl) (fun _ _ _ h => h) (by rfl) (by intro w' hSw; (try dsimp only at hSw); go_simp; (try (with_reducible rfl))) (by assumption) ?_
            simp only [Act.put, List.setIfInBounds_toArray, List.set_cons_zero, List.set_cons_succ]
            refine held_take 6 37 (.int .i64 x.phase) rfl rfl (by kernel_rfl) (by kernel_rfl) (by kernel_rfl) (fun _ _ _ h => h) (by rfl) (by intro w' hSw; (try dsimp only at hSw); go_simp; (try (with_reducible rfl))) (by assumption) ?_
            simp only [Act.put, List.setIfInBounds_toArray, List.set_cons_zero, List.set_cons_succ]
            refine held_take 7 38 (.bool true) rfl rfl (by kernel_rfl) (by kernel_rfl) (by kernel_rfl) (fun _ _ _ h => h) (by rfl) (by intro w' hSw; (try dsimp only at hSw); go_simp; (first | done | with_reducible rfl | (have hh := HP1.out; simp; omega))) (by assumption) ?_
            simp only [Act.put, List.setIfInBounds_toArray, List.set_cons_zero, List.set_cons_succ]
            refine held_take 8 39 (.bool true) rfl rfl (by kernel_rfl) (by kernel_rfl) (by kernel_rfl) (fun _ _ _ h => h) (by rfl) (by intro w' hSw; (try dsimp only at hSw); go_simp; (try (with_reducible rfl))) (by assumption) ?_
            simp only [Act.put, List.setIfInBounds_toArray, List.set_cons_zero, List.set_cons_succ]
            refine held_take 9 40 (.bool true) rfl rfl (by kernel_rfl) (by kernel_rfl) (by kernel_rfl) (fun _ _ _ h => h) (by rfl) (by intro w' hSw; (try dsimp only at hSw); go_simp; (try (with_reducible rfl))) (by assumption) ?_
            simp only [Act.put, List.setIfInBounds_toArray, List.set_cons_zero, List.set_cons_succ]
            refine held_skip 10 41 rfl rfl (by kernel_rfl) (by kernel_rfl) (by kernel_rfl) (fun _ _ _ h => h) (by rfl) (by assumption) ?_
            simp only [Act.put, List.setIfInBounds_toArray, List.set_cons_zero, List.set_cons_succ]
            refine held_skip 11 42 rfl rfl (by kernel_rfl) (by kernel_rfl) (by kernel_rfl) (fun _ _ _ h => h) (by rfl) (by assumption) ?_
            simp only [Act.put, List.setIfInBounds_toArray, List.set_cons_zero, List.set_cons_succ]
            refine held_skip 12 43 rfl rfl (by kernel_rfl) (by kernel_rfl) (by kernel_rfl) (fun _ _ _ h => h) (by rfl) (by assumption) ?_
            simp only [Act.put, List.setIfInBounds_toArray, List.set_cons_zero, List.set_cons_succ]
            refine held_take 13 44 (.bool true) rfl rfl (by kernel_rfl) (by kernel_rfl) (by kernel_rfl) (fun _ _ _ h => h) (by rfl) (by intro w' hSw; (try dsimp only at hSw); go_simp; (try (with_reducible rfl))) (by assumption) ?_
            simp only [Act.put, List.setIfInBounds_toArray, List.set_cons_zero, List.set_cons_succ]
            refine held_take 14 45 (.bool true) rfl rfl (by kernel_rfl) (by kernel_rfl) (by kernel_rfl) (fun _ _ _ h => h) (by rfl) (by intro w' hSw; (try dsimp only at hSw); go_simp; (try (with_reducible rfl))) (by assumption) ?_
            simp only [Act.put, List.setIfInBounds_toArray, List.set_cons_zero, List.set_cons_succ]
            refine held_skip 15 46 rfl rfl (by kernel_rfl) (by kernel_rfl) (by kernel_rfl) (fun _ _ _ h => h) (by rfl) (by assumption) ?_
            simp only [Act.put, List.setIfInBounds_toArray, List.set_cons_zero, List.set_cons_succ]
            refine held_skip 16 47 rfl rfl (by kernel_rfl) (by kernel_rfl) (by kernel_rfl) (fun _ _ _ h => h) (by rfl) (by assumption) ?_
            simp only [Act.put, List.setIfInBounds_toArray, List.set_cons_zero, List.set_cons_succ]
            refine held_skip 17 48 rfl rfl (by kernel_rfl) (by kernel_rfl) (by kernel_rfl) (fun _ _ _ h => h) (by rfl) (by assumption) ?_
            simp only [Act.put, List.setIfInBounds_toArray, List.set_cons_zero, List.set_cons_succ]
            refine held_skip 18 49 rfl rfl (by kernel_rfl) (by kernel_rfl) (by kernel_rfl) (fun _ _ _ h => h) (by rfl) (by assumption) ?_
            simp only [Act.put, List.setIfInBounds_toArray, List.set_cons_zero, List.set_cons_succ]
            refine held_skip 19 50 rfl rfl (by kernel_rfl) (by kernel_rfl) (by kernel_rfl) (fun _ _ _ h => h) (by rfl) (by assumption) ?_
            simp only [Act.put, List.setIfInBounds_toArray, List.set_cons_zero, List.set_cons_succ]
            refine held_skip 20 51 rfl rfl (by kernel_rfl) (by kernel_rfl) (by kernel_rfl) (fun _ _ _ h => h) (by rfl) (by assumption) ?_
            simp only [Act.put, List.setIfInBounds_toArray, List.set_cons_zero, List.set_cons_succ]
            refine held_skip 21 52 rfl rfl (by kernel_rfl) (by kernel_rfl) (by kernel_rfl) (fun _ _ _ h => h) (by rfl) (by assumption) ?_
            simp only [Act.put, List.setIfInBounds_toArray, List.set_cons_zero, List.set_cons_succ]
            refine held_skip 22 53 rfl rfl (by kernel_rfl) (by kernel_rfl) (by kernel_rfl) (fun _ _ _ h => h) (by rfl) (by assumption) ?_
            simp only [Act.put, List.setIfInBounds_toArray, List.set_cons_zero, List.set_cons_succ]
            refine held_skip 23 54 rfl rfl (by kernel_rfl) (by kernel_rfl) (by kernel_rfl) (fun _ _ _ h => h) (by rfl) (by assumption) ?_
            simp only [Act.put, List.setIfInBounds_toArray, List.set_cons_zero, List.set_cons_succ]
            refine held_skip 24 55 rfl rfl (by kernel_rfl) (by kernel_rfl) (by kernel_rfl) (fun _ _ _ h => h) (by rfl) (by assumption) ?_
            simp only [Act.put, List.setIfInBounds_toArray, List.set_cons_zero, List.set_cons_succ]
            refine held_skip 25 56 rfl rfl (by kernel_rfl) (by kernel_rfl) (by kernel_rfl) (fun _ _ _ h => h) (by rfl) (by assumption) ?_
            simp only [Act.put, List.setIfInBounds_toArray, List.set_cons_zero, List.set_cons_succ]
            refine held_skip 26 57 rfl rfl (by kernel_rfl) (by kernel_rfl) (by kernel_rfl) (fun _ _ _ h => h) (by rfl) (by assumption) ?_
            simp only [Act.put, List.setIfInBounds_toArray, List.set_cons_zero, List.set_cons_succ]
            refine held_skip 27 58 rfl rfl (by kernel_rfl) (by kernel_rfl) (by kernel_rfl) (fun _ _ _ h => h) (by rfl) (by assumption) ?_
            simp only [Act.put, List.setIfInBounds_toArray, List.set_cons_zero, List.set_cons_succ]
            refine held_skip 28 59 rfl rfl (by kernel_rfl) (by kernel_rfl) (by kernel_rfl) (fun _ _ _ h => h) (by rfl) (by assumption) ?_
            simp only [Act.put, List.setIfInBounds_toArray, List.set_cons_zero, List.set_cons_succ]
            refine held_skip 29 60 rfl rfl (by kernel_rfl) (by kernel_rfl) (by kernel_rfl) (fun _ _ _ h => h) (by rfl) (by assumption) ?_
            simp only [Act.put, List.setIfInBounds_toArray, List.set_cons_zero, List.set_cons_succ]
            refine held_skip 30 61 rfl rfl (by kernel_rfl) (by kernel_rfl) (by kernel_rfl) (fun _ _ _ h => h) (by rfl) (by assumption) ?_
            simp only [Act.put, List.setIfInBounds_toArray, List.set_cons_zero, List.set_cons_succ]
            refine held_take 31 62 (.bool true) rfl rfl (by kernel_rfl) (by kernel_rfl) (by kernel_rfl) (fun _ _ _ h => h) (by rfl) (by intro w' hSw; (try dsimp only at hSw); go_simp; (try (with_reducible rfl))) (by assumption) ?_
            simp only [Act.put, List.setIfInBounds_toArray, List.set_cons_zero, List.set_cons_succ]
            refine wpAnyH_done (by kernel_rfl) ?_ _
            clear hHeld
            go_wp2_with fail
            go_ret
            exact ⟨ret_bool HN.out.symm, HQ.out.bel⟩
          · by_cases hp3 : 3 < x.phase
            · have HPR := Lib.hid hpr
              have HP1 := Lib.hid (show ¬ x.phase < 1 ∧ 3 < x.phase from ⟨hp1, hp3⟩)
              clear hpr hre hp1 hp3
              have HE := Lib.hid HE.out.drew
              have HQ := Lib.hid HQ.out.drew
              have HRX := Lib.hid HRX.out.drew
              refine wp_region_held_drew (S := (fun w' => w'.cell? ⟨N, 0, none⟩ = some (.string x.pod.id) ∧ w'.cell? ⟨N, 1, none⟩ = some (.int .i64 x.pod.prio) ∧ w'.cell? ⟨N, 2, none⟩ = some (.bool x.pod.crit) ∧ w'.cell? ⟨N, 3, none⟩ = some (.int .i64 x.pod.q0) ∧ w'.cell? ⟨N, 4, none⟩ = some (.int .i64 x.pod.q1) ∧ w'.cell? ⟨N, 5, none⟩ = some (.int .i64 x.pod.q2) ∧ w'.cell? ⟨N, 6, none⟩ = some (.int .i64 x.pod.l0) ∧ w'.cell? ⟨N, 7, none⟩ = some (.int .i64 x.pod.l1) ∧ w'.cell? ⟨N, 8, none⟩ = some (.int .i64 x.pod.l2) ∧ w'.cell? ⟨N, 9, none⟩ = some (.string x.pod.image) ∧ w'.cell? ⟨N, 10, none⟩ = some (.int .i64 x.pod.size) ∧ w'.cell? ⟨N, 11, none⟩ = some (.int .i64 x.phase) ∧ w'.cell? ⟨w.heap.size, 1, none⟩ = some (.slice (some ⟨b, off, none⟩) l.length c))) (by kernel_rfl) (⟨HE.out.cell 0, HE.out.cell 1, HE.out.cell 2, HE.out.cell 3, HE.out.cell 4, HE.out.cell 5, HE.out.cell 6, HE.out.cell 7, HE.out.cell 8, HE.out.cell 9, HE.out.cell 10, HE.out.cell 11, HQ.out.sb.cell 1⟩) (fun hHeld => ?_)
              generalize W5.drew = wd at *
              refine held_take 0 31 (.pointer (some ⟨N, 0, none⟩)) rfl rfl (by kernel_rfl) (by kernel_rfl) (by kernel_rfl) (fun _ _ _ h => h) (by rfl) (by intro w' hSw; (try dsimp only at hSw); go_simp; (try (with_reducible rfl))) (by assumption) ?_
              simp only [Act.put, List.setIfInBounds_toArray, List.set_cons_zero, List.set_cons_succ]
              refine held_take 1 32 (.agg #[.string x.pod.id, .int .i64 x.pod.prio, .bool x.pod.crit, .int .i64 x.pod.q0, .int .i64 x.pod.q1, .int .i64 x.pod.q2, .int .i64 x.pod.l0, .int .i64 x.pod.l1, .int .i64 x.pod.l2, .string x.pod.image, .int .i64 x.pod.size]) rfl rfl (by kernel_rfl) (by kernel_rfl) (by kernel_rfl) (fun _ _ _ h => h) (by rfl) (by intro w' hSw; (try dsimp only at hSw); go_simp; (try (with_reducible rfl))) (by assumption) ?_
              simp only [Act.put, List.setIfInBounds_toArray, List.set_cons_zero, List.set_cons_succ]
              refine held_call 2 33 rfl rfl (by kernel_rfl) (by rfl) (fun K hK => ?_)
              go_simp
              go_at_call 22; with_reducible refine (rightV_any HPR.out _ HWX.out).mono ?_; rintro e w6 ⟨rfl, hb⟩
              have HE := Lib.hid (HE.out.belowAll hb)
              have HQ := Lib.hid (HQ.out.below hb)
              have HRX := Lib.hid (HRX.out.below hb)
              clear hb
              refine hK _ _ (⟨HE.out.cell 0, HE.out.cell 1, HE.out.cell 2, HE.out.cell 3, HE.out.cell 4, HE.out.cell 5, HE.out.cell 6, HE.out.cell 7, HE.out.cell 8, HE.out.cell 9, HE.out.cell 10, HE.out.cell 11, HQ.out.sb.cell 1⟩) ?_
              have hHeld := (show w6.cell? ⟨N, 0, none⟩ = some (.string x.pod.id) ∧ w6.cell? ⟨N, 1, none⟩ = some (.int .i64 x.pod.prio) ∧ w6.cell? ⟨N, 2, none⟩ = some (.bool x.pod.crit) ∧ w6.cell? ⟨N, 3, none⟩ = some (.int .i64 x.pod.q0) ∧ w6.cell? ⟨N, 4, none⟩ = some (.int .i64 x.pod.q1) ∧ w6.cell? ⟨N, 5, none⟩ = some (.int .i64 x.pod.q2) ∧ w6.cell? ⟨N, 6, none⟩ = some (.int .i64 x.pod.l0) ∧ w6.cell? ⟨N, 7, none⟩ = some (.int .i64 x.pod.l1) ∧ w6.cell? ⟨N, 8, none⟩ = some (.int .i64 x.pod.l2) ∧ w6.cell? ⟨N, 9, none⟩ = some (.string x.pod.image) ∧ w6.cell? ⟨N, 10, none⟩ = some (.int .i64 x.pod.size) ∧ w6.cell? ⟨N, 11, none⟩ = some (.int .i64 x.phase) ∧ w6.cell? ⟨w.heap.size, 1, none⟩ = some (.slice (some ⟨b, off, none⟩) l.length c) from ⟨HE.out.cell 0, HE.out.cell 1, HE.out.cell 2, HE.out.cell 3, HE.out.cell 4, HE.out.cell 5, HE.out.cell 6, HE.out.cell 7, HE.out.cell 8, HE.out.cell 9, HE.out.cell 10, HE.out.cell 11, HQ.out.sb.cell 1⟩)
              clear hK K
              simp only [Act.put, List.setIfInBounds_toArray, List.set_cons_zero, List.set_cons_succ]
              refine held_take 3 34 (.bool false) rfl rfl (by kernel_rfl) (by kernel_rfl) (by kernel_rfl) (fun _ _ _ h => h) (by rfl) (by intro w' hSw; (try dsimp only at hSw); go_simp; (try (with_reducible rfl))) (by assumption) ?_
              simp only [Act.put, List.setIfInBounds_toArray, List.set_cons_zero, List.set_cons_succ]
              refine held_take 4 35 (.bool false) rfl rfl (by kernel_rfl) (by kernel_rfl) (by kernel_rfl) (fun _ _ _ h => h) (by rfl) (by intro w' hSw; (try dsimp only at hSw); go_simp; (try (with_reducible rfl))) (by assumption) ?_
              simp only [Act.put, List.setIfInBounds_toArray, List.set_cons_zero, List.set_cons_succ]
              refine held_take 5 36 (.pointer (some ⟨N, 11, none⟩)) rfl rfl (by kernel_rfl) (by kernel_rfl) (by kernel_rfl) (fun _ _ _ h => h) (by rfl) (by intro w' hSw; (try dsimp only at hSw); go_simp; (try (with_reducible rfl))) (by assumption) ?_
              simp only [Act.put, List.setIfInBounds_toArray, List.set_cons_zero, List.set_cons_succ]
              refine held_take 6 37 (.int .i64 x.phase) rfl rfl (by kernel_rfl) (by kernel_rfl) (by kernel_rfl) (fun _ _ _ h => h) (by rfl) (by intro w' hSw; (try dsimp only at hSw); go_simp; (try (with_reducible rfl))) (by assumption) ?_
              simp only [Act.put, List.setIfInBounds_toArray, List.set_cons_zero, List.set_cons_succ]
              refine held_take 7 38 (.bool false) rfl rfl (by kernel_rfl) (by kernel_rfl) (by kernel_rfl) (fun _ _ _ h => h) (by rfl) (by intro w' hSw; (try dsimp only at hSw); go_simp; (first | done | with_reducible rfl | (have hh := HP1.out; simp; omega))) (by assumption) ?_
              simp only [Act.put, List.setIfInBounds_toArray, List.set_cons_zero, List.set_cons_succ]
              refine held_take 8 39 (.bool false) rfl rfl (by kernel_rfl) (by kernel_rfl) (by kernel_rfl) (fun _ _ _ h => h) (by rfl) (by intro w' hSw; (try dsimp only at hSw); go_simp; (try (with_reducible rfl))) (by assumption) ?_
              simp only [Act.put, List.setIfInBounds_toArray, List.set_cons_zero, List.set_cons_succ]
              refine held_take 9 40 (.bool false) rfl rfl (by kernel_rfl) (by kernel_rfl) (by kernel_rfl) (fun _ _ _ h => h) (by rfl) (by intro w' hSw; (try dsimp only at hSw); go_simp; (try (with_reducible rfl))) (by assumption) ?_
              simp only [Act.put, List.setIfInBounds_toArray, List.set_cons_zero, List.set_cons_succ]
              refine held_take 10 41 (.pointer (some ⟨N, 11, none⟩)) rfl rfl (by kernel_rfl) (by kernel_rfl) (by kernel_rfl) (fun _ _ _ h => h) (by rfl) (by intro w' hSw; (try dsimp only at hSw); go_simp; (try (with_reducible rfl))) (by assumption) ?_
              simp only [Act.put, List.setIfInBounds_toArray, List.set_cons_zero, List.set_cons_succ]
              refine held_take 11 42 (.int .i64 x.phase) rfl rfl (by kernel_rfl) (by kernel_rfl) (by kernel_rfl) (fun _ _ _ h => h) (by rfl) (by intro w' hSw; (try dsimp only at hSw); go_simp; (try (with_reducible rfl))) (by assumption) ?_
              simp only [Act.put, List.setIfInBounds_toArray, List.set_cons_zero, List.set_cons_succ]
              refine held_take 12 43 (.bool true) rfl rfl (by kernel_rfl) (by kernel_rfl) (by kernel_rfl) (fun _ _ _ h => h) (by rfl) (by intro w' hSw; (try dsimp only at hSw); go_simp; (first | done | with_reducible rfl | (have hh := HP1.out; simp; omega))) (by assumption) ?_
              simp only [Act.put, List.setIfInBounds_toArray, List.set_cons_zero, List.set_cons_succ]
              refine held_take 13 44 (.bool true) rfl rfl (by kernel_rfl) (by kernel_rfl) (by kernel_rfl) (fun _ _ _ h => h) (by rfl) (by intro w' hSw; (try dsimp only at hSw); go_simp; (try (with_reducible rfl))) (by assumption) ?_
              simp only [Act.put, List.setIfInBounds_toArray, List.set_cons_zero, List.set_cons_succ]
              refine held_take 14 45 (.bool true) rfl rfl (by kernel_rfl) (by kernel_rfl) (by kernel_rfl) (fun _ _ _ h => h) (by rfl) (by intro w' hSw; (try dsimp only at hSw); go_simp; (try (with_reducible rfl))) (by assumption) ?_
              simp only [Act.put, List.setIfInBounds_toArray, List.set_cons_zero, List.set_cons_succ]
              refine held_skip 15 46 rfl rfl (by kernel_rfl) (by kernel_rfl) (by kernel_rfl) (fun _ _ _ h => h) (by rfl) (by assumption) ?_
              simp only [Act.put, List.setIfInBounds_toArray, List.set_cons_zero, List.set_cons_succ]
              refine held_skip 16 47 rfl rfl (by kernel_rfl) (by kernel_rfl) (by kernel_rfl) (fun _ _ _ h => h) (by rfl) (by assumption) ?_
              simp only [Act.put, List.setIfInBounds_toArray, List.set_cons_zero, List.set_cons_succ]
              refine held_skip 17 48 rfl rfl (by kernel_rfl) (by kernel_rfl) (by kernel_rfl) (fun _ _ _ h => h) (by rfl) (by assumption) ?_
              simp only [Act.put, List.setIfInBounds_toArray, List.set_cons_zero, List.set_cons_succ]
              refine held_skip 18 49 rfl rfl (by kernel_rfl) (by kernel_rfl) (by kernel_rfl) (fun _ _ _ h => h) (by rfl) (by assumption) ?_
              simp only [Act.put, List.setIfInBounds_toArray, List.set_cons_zero, List.set_cons_succ]
              refine held_skip 19 50 rfl rfl (by kernel_rfl) (by kernel_rfl) (by kernel_rfl) (fun _ _ _ h => h) (by rfl) (by assumption) ?_
              simp only [Act.put, List.setIfInBounds_toArray, List.set_cons_zero, List.set_cons_succ]
              refine held_skip 20 51 rfl rfl (by kernel_rfl) (by kernel_rfl) (by kernel_rfl) (fun _ _ _ h => h) (by rfl) (by assumption) ?_
              simp only [Act.put, List.setIfInBounds_toArray, List.set_cons_zero, List.set_cons_succ]
              refine held_skip 21 52 rfl rfl (by kernel_rfl) (by kernel_rfl) (by kernel_rfl) (fun _ _ _ h => h) (by rfl) (by assumption) ?_
              simp only [Act.put, List.setIfInBounds_toArray, List.set_cons_zero, List.set_cons_succ]
              refine held_skip 22 53 rfl rfl (by kernel_rfl) (by kernel_rfl) (by kernel_rfl) (fun _ _ _ h => h) (by rfl) (by assumption) ?_
              simp only [Act.put, List.setIfInBounds_toArray, List.set_cons_zero, List.set_cons_succ]
              refine held_skip 23 54 rfl rfl (by kernel_rfl) (by kernel_rfl) (by kernel_rfl) (fun _ _ _ h => h) (by rfl) (by assumption) ?_
              simp only [Act.put, List.setIfInBounds_toArray, List.set_cons_zero, List.set_cons_succ]
              refine held_skip 24 55 rfl rfl (by kernel_rfl) (by kernel_rfl) (by kernel_rfl) (fun _ _ _ h => h) (by rfl) (by assumption) ?_
              simp only [Act.put, List.setIfInBounds_toArray, List.set_cons_zero, List.set_cons_succ]
              refine held_skip 25 56 rfl rfl (by kernel_rfl) (by kernel_rfl) (by kernel_rfl) (fun _ _ _ h => h) (by rfl) (by assumption) ?_
              simp only [Act.put, List.setIfInBounds_toArray, List.set_cons_zero, List.set_cons_succ]
              refine held_skip 26 57 rfl rfl (by kernel_rfl) (by kernel_rfl) (by kernel_rfl) (fun _ _ _ h => h) (by rfl) (by assumption) ?_
              simp only [Act.put, List.setIfInBounds_toArray, List.set_cons_zero, List.set_cons_succ]
              refine held_skip 27 58 rfl rfl (by kernel_rfl) (by kernel_rfl) (by kernel_rfl) (fun _ _ _ h => h) (by rfl) (by assumption) ?_
              simp only [Act.put, List.setIfInBounds_toArray, List.set_cons_zero, List.set_cons_succ]
              refine held_skip 28 59 rfl rfl (by kernel_rfl) (by kernel_rfl) (by kernel_rfl) (fun _ _ _ h => h) (by rfl) (by assumption) ?_
              simp only [Act.put, List.setIfInBounds_toArray, List.set_cons_zero, List.set_cons_succ]
              refine held_skip 29 60 rfl rfl (by kernel_rfl) (by kernel_rfl) (by kernel_rfl) (fun _ _ _ h => h) (by rfl) (by assumption) ?_
              simp only [Act.put, List.setIfInBounds_toArray, List.set_cons_zero, List.set_cons_succ]
              refine held_skip 30 61 rfl rfl (by kernel_rfl) (by kernel_rfl) (by kernel_rfl) (fun _ _ _ h => h) (by rfl) (by assumption) ?_
              simp only [Act.put, List.setIfInBounds_toArray, List.set_cons_zero, List.set_cons_succ]
              refine held_take 31 62 (.bool true) rfl rfl (by kernel_rfl) (by kernel_rfl) (by kernel_rfl) (fun _ _ _ h => h) (by rfl) (by intro w' hSw; (try dsimp only at hSw); go_simp; (try (with_reducible rfl))) (by assumption) ?_
              simp only [Act.put, List.setIfInBounds_toArray, List.set_cons_zero, List.set_cons_succ]
              refine wpAnyH_done (by kernel_rfl) ?_ _
              clear hHeld
              go_wp2_with fail
              go_ret
              exact ⟨ret_bool HN.out.symm, HQ.out.bel⟩
            · rw [rightE_parts hpr (by omega) (by omega)] at hre; cases hre
      · rcases Nat.eq_zero_or_pos i with hz | hz
        · subst hz
          have HYS := Lib.hid (HYes.out (HMk.out hre fun j hj => by omega))
          have HPR := Lib.hid (rightE_un hre).1
          have HPH := Lib.hid (rightE_un hre).2
          clear hre
          have HE := Lib.hid HE.out.drew
          have HQ := Lib.hid HQ.out.drew
          have HRX := Lib.hid HRX.out.drew
          refine wp_region_held_drew (S := (fun w' => w'.cell? ⟨N, 0, none⟩ = some (.string x.pod.id) ∧ w'.cell? ⟨N, 1, none⟩ = some (.int .i64 x.pod.prio) ∧ w'.cell? ⟨N, 2, none⟩ = some (.bool x.pod.crit) ∧ w'.cell? ⟨N, 3, none⟩ = some (.int .i64 x.pod.q0) ∧ w'.cell? ⟨N, 4, none⟩ = some (.int .i64 x.pod.q1) ∧ w'.cell? ⟨N, 5, none⟩ = some (.int .i64 x.pod.q2) ∧ w'.cell? ⟨N, 6, none⟩ = some (.int .i64 x.pod.l0) ∧ w'.cell? ⟨N, 7, none⟩ = some (.int .i64 x.pod.l1) ∧ w'.cell? ⟨N, 8, none⟩ = some (.int .i64 x.pod.l2) ∧ w'.cell? ⟨N, 9, none⟩ = some (.string x.pod.image) ∧ w'.cell? ⟨N, 10, none⟩ = some (.int .i64 x.pod.size) ∧ w'.cell? ⟨N, 11, none⟩ = some (.int .i64 x.phase) ∧ w'.cell? ⟨w.heap.size, 1, none⟩ = some (.slice (some ⟨b, off, none⟩) l.length c))) (by kernel_rfl) (⟨HE.out.cell 0, HE.out.cell 1, HE.out.cell 2, HE.out.cell 3, HE.out.cell 4, HE.out.cell 5, HE.out.cell 6, HE.out.cell 7, HE.out.cell 8, HE.out.cell 9, HE.out.cell 10, HE.out.cell 11, HQ.out.sb.cell 1⟩) (fun hHeld => ?_)
          generalize W5.drew = wd at *
          refine held_take 0 31 (.pointer (some ⟨N, 0, none⟩)) rfl rfl (by kernel_rfl) (by kernel_rfl) (by kernel_rfl) (fun _ _ _ h => h) (by rfl) (by intro w' hSw; (try dsimp only at hSw); go_simp; (try (with_reducible rfl))) (by assumption) ?_
          simp only [Act.put, List.setIfInBounds_toArray, List.set_cons_zero, List.set_cons_succ]
          refine held_take 1 32 (.agg #[.string x.pod.id, .int .i64 x.pod.prio, .bool x.pod.crit, .int .i64 x.pod.q0, .int .i64 x.pod.q1, .int .i64 x.pod.q2, .int .i64 x.pod.l0, .int .i64 x.pod.l1, .int .i64 x.pod.l2, .string x.pod.image, .int .i64 x.pod.size]) rfl rfl (by kernel_rfl) (by kernel_rfl) (by kernel_rfl) (fun _ _ _ h => h) (by rfl) (by intro w' hSw; (try dsimp only at hSw); go_simp; (try (with_reducible rfl))) (by assumption) ?_
          simp only [Act.put, List.setIfInBounds_toArray, List.set_cons_zero, List.set_cons_succ]
          refine held_call 2 33 rfl rfl (by kernel_rfl) (by rfl) (fun K hK => ?_)
          go_simp
          go_at_call 22; with_reducible refine (rightV_any HPR.out _ HWX.out).mono ?_; rintro e w6 ⟨rfl, hb⟩
          have HE := Lib.hid (HE.out.belowAll hb)
          have HQ := Lib.hid (HQ.out.below hb)
          have HRX := Lib.hid (HRX.out.below hb)
          clear hb
          refine hK _ _ (⟨HE.out.cell 0, HE.out.cell 1, HE.out.cell 2, HE.out.cell 3, HE.out.cell 4, HE.out.cell 5, HE.out.cell 6, HE.out.cell 7, HE.out.cell 8, HE.out.cell 9, HE.out.cell 10, HE.out.cell 11, HQ.out.sb.cell 1⟩) ?_
          have hHeld := (show w6.cell? ⟨N, 0, none⟩ = some (.string x.pod.id) ∧ w6.cell? ⟨N, 1, none⟩ = some (.int .i64 x.pod.prio) ∧ w6.cell? ⟨N, 2, none⟩ = some (.bool x.pod.crit) ∧ w6.cell? ⟨N, 3, none⟩ = some (.int .i64 x.pod.q0) ∧ w6.cell? ⟨N, 4, none⟩ = some (.int .i64 x.pod.q1) ∧ w6.cell? ⟨N, 5, none⟩ = some (.int .i64 x.pod.q2) ∧ w6.cell? ⟨N, 6, none⟩ = some (.int .i64 x.pod.l0) ∧ w6.cell? ⟨N, 7, none⟩ = some (.int .i64 x.pod.l1) ∧ w6.cell? ⟨N, 8, none⟩ = some (.int .i64 x.pod.l2) ∧ w6.cell? ⟨N, 9, none⟩ = some (.string x.pod.image) ∧ w6.cell? ⟨N, 10, none⟩ = some (.int .i64 x.pod.size) ∧ w6.cell? ⟨N, 11, none⟩ = some (.int .i64 x.phase) ∧ w6.cell? ⟨w.heap.size, 1, none⟩ = some (.slice (some ⟨b, off, none⟩) l.length c) from ⟨HE.out.cell 0, HE.out.cell 1, HE.out.cell 2, HE.out.cell 3, HE.out.cell 4, HE.out.cell 5, HE.out.cell 6, HE.out.cell 7, HE.out.cell 8, HE.out.cell 9, HE.out.cell 10, HE.out.cell 11, HQ.out.sb.cell 1⟩)
          clear hK K
          simp only [Act.put, List.setIfInBounds_toArray, List.set_cons_zero, List.set_cons_succ]
          refine held_take 3 34 (.bool false) rfl rfl (by kernel_rfl) (by kernel_rfl) (by kernel_rfl) (fun _ _ _ h => h) (by rfl) (by intro w' hSw; (try dsimp only at hSw); go_simp; (try (with_reducible rfl))) (by assumption) ?_
          simp only [Act.put, List.setIfInBounds_toArray, List.set_cons_zero, List.set_cons_succ]
          refine held_take 4 35 (.bool false) rfl rfl (by kernel_rfl) (by kernel_rfl) (by kernel_rfl) (fun _ _ _ h => h) (by rfl) (by intro w' hSw; (try dsimp only at hSw); go_simp; (try (with_reducible rfl))) (by assumption) ?_
          simp only [Act.put, List.setIfInBounds_toArray, List.set_cons_zero, List.set_cons_succ]
          refine held_take 5 36 (.pointer (some ⟨N, 11, none⟩)) rfl rfl (by kernel_rfl) (by kernel_rfl) (by kernel_rfl) (fun _ _ _ h => h) (by rfl) (by intro w' hSw; (try dsimp only at hSw); go_simp; (try (with_reducible rfl))) (by assumption) ?_
          simp only [Act.put, List.setIfInBounds_toArray, List.set_cons_zero, List.set_cons_succ]
          refine held_take 6 37 (.int .i64 x.phase) rfl rfl (by kernel_rfl) (by kernel_rfl) (by kernel_rfl) (fun _ _ _ h => h) (by rfl) (by intro w' hSw; (try dsimp only at hSw); go_simp; (try (with_reducible rfl))) (by assumption) ?_
          simp only [Act.put, List.setIfInBounds_toArray, List.set_cons_zero, List.set_cons_succ]
          refine held_take 7 38 (.bool false) rfl rfl (by kernel_rfl) (by kernel_rfl) (by kernel_rfl) (fun _ _ _ h => h) (by rfl) (by intro w' hSw; (try dsimp only at hSw); go_simp; (first | done | with_reducible rfl | (have hh := HPH.out.1; simp; omega))) (by assumption) ?_
          simp only [Act.put, List.setIfInBounds_toArray, List.set_cons_zero, List.set_cons_succ]
          refine held_take 8 39 (.bool false) rfl rfl (by kernel_rfl) (by kernel_rfl) (by kernel_rfl) (fun _ _ _ h => h) (by rfl) (by intro w' hSw; (try dsimp only at hSw); go_simp; (try (with_reducible rfl))) (by assumption) ?_
          simp only [Act.put, List.setIfInBounds_toArray, List.set_cons_zero, List.set_cons_succ]
          refine held_take 9 40 (.bool false) rfl rfl (by kernel_rfl) (by kernel_rfl) (by kernel_rfl) (fun _ _ _ h => h) (by rfl) (by intro w' hSw; (try dsimp only at hSw); go_simp; (try (with_reducible rfl))) (by assumption) ?_
          simp only [Act.put, List.setIfInBounds_toArray, List.set_cons_zero, List.set_cons_succ]
          refine held_take 10 41 (.pointer (some ⟨N, 11, none⟩)) rfl rfl (by kernel_rfl) (by kernel_rfl) (by kernel_rfl) (fun _ _ _ h => h) (by rfl) (by intro w' hSw; (try dsimp only at hSw); go_simp; (try (with_reducible rfl))) (by assumption) ?_
          simp only [Act.put, List.setIfInBounds_toArray, List.set_cons_zero, List.set_cons_succ]
          refine held_take 11 42 (.int .i64 x.phase) rfl rfl (by kernel_rfl) (by kernel_rfl) (by kernel_rfl) (fun _ _ _ h => h) (by rfl) (by intro w' hSw; (try dsimp only at hSw); go_simp; (try (with_reducible rfl))) (by assumption) ?_
          simp only [Act.put, List.setIfInBounds_toArray, List.set_cons_zero, List.set_cons_succ]
          refine held_take 12 43 (.bool false) rfl rfl (by kernel_rfl) (by kernel_rfl) (by kernel_rfl) (fun _ _ _ h => h) (by rfl) (by intro w' hSw; (try dsimp only at hSw); go_simp; (first | done | with_reducible rfl | (have hh := HPH.out.2; simp; omega))) (by assumption) ?_
          simp only [Act.put, List.setIfInBounds_toArray, List.set_cons_zero, List.set_cons_succ]
          refine held_take 13 44 (.bool false) rfl rfl (by kernel_rfl) (by kernel_rfl) (by kernel_rfl) (fun _ _ _ h => h) (by rfl) (by intro w' hSw; (try dsimp only at hSw); go_simp; (try (with_reducible rfl))) (by assumption) ?_
          simp only [Act.put, List.setIfInBounds_toArray, List.set_cons_zero, List.set_cons_succ]
          refine held_take 14 45 (.bool false) rfl rfl (by kernel_rfl) (by kernel_rfl) (by kernel_rfl) (fun _ _ _ h => h) (by rfl) (by intro w' hSw; (try dsimp only at hSw); go_simp; (try (with_reducible rfl))) (by assumption) ?_
          simp only [Act.put, List.setIfInBounds_toArray, List.set_cons_zero, List.set_cons_succ]
          refine held_take 15 46 (.int .i64 0) rfl rfl (by kernel_rfl) (by kernel_rfl) (by kernel_rfl) (fun _ _ _ h => h) (by rfl) (by intro w' hSw; (try dsimp only at hSw); go_simp; (try (with_reducible rfl))) (by assumption) ?_
          simp only [Act.put, List.setIfInBounds_toArray, List.set_cons_zero, List.set_cons_succ]
          refine held_take 16 47 (.bool false) rfl rfl (by kernel_rfl) (by kernel_rfl) (by kernel_rfl) (fun _ _ _ h => h) (by rfl) (by intro w' hSw; (try dsimp only at hSw); go_simp; (first | done | with_reducible rfl | (first | done | with_reducible rfl | omega | (simp; done) | (rw [IntKind.wrap_i64]; omega) | (simp; omega)))) (by assumption) ?_
          simp only [Act.put, List.setIfInBounds_toArray, List.set_cons_zero, List.set_cons_succ]
          refine held_take 17 48 (.bool false) rfl rfl (by kernel_rfl) (by kernel_rfl) (by kernel_rfl) (fun _ _ _ h => h) (by rfl) (by intro w' hSw; (try dsimp only at hSw); go_simp; (try (with_reducible rfl))) (by assumption) ?_
          simp only [Act.put, List.setIfInBounds_toArray, List.set_cons_zero, List.set_cons_succ]
          refine held_skip 18 49 rfl rfl (by kernel_rfl) (by kernel_rfl) (by kernel_rfl) (fun _ _ _ h => h) (by rfl) (by assumption) ?_
          simp only [Act.put, List.setIfInBounds_toArray, List.set_cons_zero, List.set_cons_succ]
          refine held_skip 19 50 rfl rfl (by kernel_rfl) (by kernel_rfl) (by kernel_rfl) (fun _ _ _ h => h) (by rfl) (by assumption) ?_
          simp only [Act.put, List.setIfInBounds_toArray, List.set_cons_zero, List.set_cons_succ]
          refine held_skip 20 51 rfl rfl (by kernel_rfl) (by kernel_rfl) (by kernel_rfl) (fun _ _ _ h => h) (by rfl) (by assumption) ?_
          simp only [Act.put, List.setIfInBounds_toArray, List.set_cons_zero, List.set_cons_succ]
          refine held_skip 21 52 rfl rfl (by kernel_rfl) (by kernel_rfl) (by kernel_rfl) (fun _ _ _ h => h) (by rfl) (by assumption) ?_
          simp only [Act.put, List.setIfInBounds_toArray, List.set_cons_zero, List.set_cons_succ]
          refine held_skip 22 53 rfl rfl (by kernel_rfl) (by kernel_rfl) (by kernel_rfl) (fun _ _ _ h => h) (by rfl) (by assumption) ?_
          simp only [Act.put, List.setIfInBounds_toArray, List.set_cons_zero, List.set_cons_succ]
          refine held_skip 23 54 rfl rfl (by kernel_rfl) (by kernel_rfl) (by kernel_rfl) (fun _ _ _ h => h) (by rfl) (by assumption) ?_
          simp only [Act.put, List.setIfInBounds_toArray, List.set_cons_zero, List.set_cons_succ]
          refine held_skip 24 55 rfl rfl (by kernel_rfl) (by kernel_rfl) (by kernel_rfl) (fun _ _ _ h => h) (by rfl) (by assumption) ?_
          simp only [Act.put, List.setIfInBounds_toArray, List.set_cons_zero, List.set_cons_succ]
          refine held_skip 25 56 rfl rfl (by kernel_rfl) (by kernel_rfl) (by kernel_rfl) (fun _ _ _ h => h) (by rfl) (by assumption) ?_
          simp only [Act.put, List.setIfInBounds_toArray, List.set_cons_zero, List.set_cons_succ]
          refine held_skip 26 57 rfl rfl (by kernel_rfl) (by kernel_rfl) (by kernel_rfl) (fun _ _ _ h => h) (by rfl) (by assumption) ?_
          simp only [Act.put, List.setIfInBounds_toArray, List.set_cons_zero, List.set_cons_succ]
          refine held_skip 27 58 rfl rfl (by kernel_rfl) (by kernel_rfl) (by kernel_rfl) (fun _ _ _ h => h) (by rfl) (by assumption) ?_
          simp only [Act.put, List.setIfInBounds_toArray, List.set_cons_zero, List.set_cons_succ]
          refine held_skip 28 59 rfl rfl (by kernel_rfl) (by kernel_rfl) (by kernel_rfl) (fun _ _ _ h => h) (by rfl) (by assumption) ?_
          simp only [Act.put, List.setIfInBounds_toArray, List.set_cons_zero, List.set_cons_succ]
          refine held_skip 29 60 rfl rfl (by kernel_rfl) (by kernel_rfl) (by kernel_rfl) (fun _ _ _ h => h) (by rfl) (by assumption) ?_
          simp only [Act.put, List.setIfInBounds_toArray, List.set_cons_zero, List.set_cons_succ]
          refine held_take 30 61 (.bool false) rfl rfl (by kernel_rfl) (by kernel_rfl) (by kernel_rfl) (fun _ _ _ h => h) (by rfl) (by intro w' hSw; (try dsimp only at hSw); go_simp; (try (with_reducible rfl))) (by assumption) ?_
          simp only [Act.put, List.setIfInBounds_toArray, List.set_cons_zero, List.set_cons_succ]
          refine held_take 31 62 (.bool false) rfl rfl (by kernel_rfl) (by kernel_rfl) (by kernel_rfl) (fun _ _ _ h => h) (by rfl) (by intro w' hSw; (try dsimp only at hSw); go_simp; (try (with_reducible rfl))) (by assumption) ?_
          simp only [Act.put, List.setIfInBounds_toArray, List.set_cons_zero, List.set_cons_succ]
          refine wpAnyH_done (by kernel_rfl) ?_ _
          clear hHeld
          go_wp2_with fail
          go_roundw
          case rel => exact ⟨1, by omega, by go_num, HYS.out, HQ.out⟩
          case measure => simp [intOf]; omega
        · obtain ⟨j, rfl⟩ : ∃ j, i = j + 1 := ⟨i - 1, by omega⟩
          have hjl : j < l.length := by omega
          have HYJ := Lib.hid (List.getElem?_eq_getElem hjl)
          have HY2 := Lib.hid (fun h : blt l[j].pod.id x.pod.id = true => HYes.out (HMk.out hre fun t ht => by cases (show t = j by omega); exact h))
          have HN2 := Lib.hid (fun h : blt l[j].pod.id x.pod.id = false => HNo.out fun h2 => by have := (HUn.out h2).2 j rfl; rw [h] at this; cases this)
          have dj : decide ((0 : Int) < ((j + 1 : Nat) : Int)) = true := decide_eq_true (by omega)
          have dj2 : (j : Int) < (l.length : Int) := by omega
          generalize l[j] = y at *
          cases hbl : blt y.pod.id x.pod.id
          · have HN := Lib.hid (HN2.out hbl)
            have HPR := Lib.hid (rightE_un hre).1
            have HPH := Lib.hid (rightE_un hre).2
            clear hre
            have HBL := Lib.hid hbl
            clear hbl
            have HE := Lib.hid HE.out.drew
            have HQ := Lib.hid HQ.out.drew
            have HRX := Lib.hid HRX.out.drew
            refine wp_region_held_drew (S := (fun w' => w'.cell? ⟨N, 0, none⟩ = some (.string x.pod.id) ∧ w'.cell? ⟨N, 1, none⟩ = some (.int .i64 x.pod.prio) ∧ w'.cell? ⟨N, 2, none⟩ = some (.bool x.pod.crit) ∧ w'.cell? ⟨N, 3, none⟩ = some (.int .i64 x.pod.q0) ∧ w'.cell? ⟨N, 4, none⟩ = some (.int .i64 x.pod.q1) ∧ w'.cell? ⟨N, 5, none⟩ = some (.int .i64 x.pod.q2) ∧ w'.cell? ⟨N, 6, none⟩ = some (.int .i64 x.pod.l0) ∧ w'.cell? ⟨N, 7, none⟩ = some (.int .i64 x.pod.l1) ∧ w'.cell? ⟨N, 8, none⟩ = some (.int .i64 x.pod.l2) ∧ w'.cell? ⟨N, 9, none⟩ = some (.string x.pod.image) ∧ w'.cell? ⟨N, 10, none⟩ = some (.int .i64 x.pod.size) ∧ w'.cell? ⟨N, 11, none⟩ = some (.int .i64 x.phase) ∧ w'.cell? ⟨w.heap.size, 1, none⟩ = some (.slice (some ⟨b, off, none⟩) l.length c) ∧ w'.cell? ⟨b, off + j * 12, none⟩ = some (.string y.pod.id))) (by kernel_rfl) (⟨HE.out.cell 0, HE.out.cell 1, HE.out.cell 2, HE.out.cell 3, HE.out.cell 4, HE.out.cell 5, HE.out.cell 6, HE.out.cell 7, HE.out.cell 8, HE.out.cell 9, HE.out.cell 10, HE.out.cell 11, HQ.out.sb.cell 1, (HRX.out.enAt (Below.refl _ _) HYJ.out).1⟩) (fun hHeld => ?_)
            generalize W5.drew = wd at *
            refine held_take 0 31 (.pointer (some ⟨N, 0, none⟩)) rfl rfl (by kernel_rfl) (by kernel_rfl) (by kernel_rfl) (fun _ _ _ h => h) (by rfl) (by intro w' hSw; (try dsimp only at hSw); go_simp; (try (with_reducible rfl))) (by assumption) ?_
            simp only [Act.put, List.setIfInBounds_toArray, List.set_cons_zero, List.set_cons_succ]
            refine held_take 1 32 (.agg #[.string x.pod.id, .int .i64 x.pod.prio, .bool x.pod.crit, .int .i64 x.pod.q0, .int .i64 x.pod.q1, .int .i64 x.pod.q2, .int .i64 x.pod.l0, .int .i64 x.pod.l1, .int .i64 x.pod.l2, .string x.pod.image, .int .i64 x.pod.size]) rfl rfl (by kernel_rfl) (by kernel_rfl) (by kernel_rfl) (fun _ _ _ h => h) (by rfl) (by intro w' hSw; (try dsimp only at hSw); go_simp; (try (with_reducible rfl))) (by assumption) ?_
            simp only [Act.put, List.setIfInBounds_toArray, List.set_cons_zero, List.set_cons_succ]
            refine held_call 2 33 rfl rfl (by kernel_rfl) (by rfl) (fun K hK => ?_)
            go_simp
            go_at_call 22; with_reducible refine (rightV_any HPR.out _ HWX.out).mono ?_; rintro e w6 ⟨rfl, hb⟩
            have HE := Lib.hid (HE.out.belowAll hb)
            have HQ := Lib.hid (HQ.out.below hb)
            have HRX := Lib.hid (HRX.out.below hb)
            clear hb
            refine hK _ _ (⟨HE.out.cell 0, HE.out.cell 1, HE.out.cell 2, HE.out.cell 3, HE.out.cell 4, HE.out.cell 5, HE.out.cell 6, HE.out.cell 7, HE.out.cell 8, HE.out.cell 9, HE.out.cell 10, HE.out.cell 11, HQ.out.sb.cell 1, (HRX.out.enAt (Below.refl _ _) HYJ.out).1⟩) ?_
            have hHeld := (show w6.cell? ⟨N, 0, none⟩ = some (.string x.pod.id) ∧ w6.cell? ⟨N, 1, none⟩ = some (.int .i64 x.pod.prio) ∧ w6.cell? ⟨N, 2, none⟩ = some (.bool x.pod.crit) ∧ w6.cell? ⟨N, 3, none⟩ = some (.int .i64 x.pod.q0) ∧ w6.cell? ⟨N, 4, none⟩ = some (.int .i64 x.pod.q1) ∧ w6.cell? ⟨N, 5, none⟩ = some (.int .i64 x.pod.q2) ∧ w6.cell? ⟨N, 6, none⟩ = some (.int .i64 x.pod.l0) ∧ w6.cell? ⟨N, 7, none⟩ = some (.int .i64 x.pod.l1) ∧ w6.cell? ⟨N, 8, none⟩ = some (.int .i64 x.pod.l2) ∧ w6.cell? ⟨N, 9, none⟩ = some (.string x.pod.image) ∧ w6.cell? ⟨N, 10, none⟩ = some (.int .i64 x.pod.size) ∧ w6.cell? ⟨N, 11, none⟩ = some (.int .i64 x.phase) ∧ w6.cell? ⟨w.heap.size, 1, none⟩ = some (.slice (some ⟨b, off, none⟩) l.length c) ∧ w6.cell? ⟨b, off + j * 12, none⟩ = some (.string y.pod.id) from ⟨HE.out.cell 0, HE.out.cell 1, HE.out.cell 2, HE.out.cell 3, HE.out.cell 4, HE.out.cell 5, HE.out.cell 6, HE.out.cell 7, HE.out.cell 8, HE.out.cell 9, HE.out.cell 10, HE.out.cell 11, HQ.out.sb.cell 1, (HRX.out.enAt (Below.refl _ _) HYJ.out).1⟩)
            clear hK K
            simp only [Act.put, List.setIfInBounds_toArray, List.set_cons_zero, List.set_cons_succ]
            refine held_take 3 34 (.bool false) rfl rfl (by kernel_rfl) (by kernel_rfl) (by kernel_rfl) (fun _ _ _ h => h) (by rfl) (by intro w' hSw; (try dsimp only at hSw); go_simp; (try (with_reducible rfl))) (by assumption) ?_
            simp only [Act.put, List.setIfInBounds_toArray, List.set_cons_zero, List.set_cons_succ]
            refine held_take 4 35 (.bool false) rfl rfl (by kernel_rfl) (by kernel_rfl) (by kernel_rfl) (fun _ _ _ h => h) (by rfl) (by intro w' hSw; (try dsimp only at hSw); go_simp; (try (with_reducible rfl))) (by assumption) ?_
            simp only [Act.put, List.setIfInBounds_toArray, List.set_cons_zero, List.set_cons_succ]
            refine held_take 5 36 (.pointer (some ⟨N, 11, none⟩)) rfl rfl (by kernel_rfl) (by kernel_rfl) (by kernel_rfl) (fun _ _ _ h => h) (by rfl) (by intro w' hSw; (try dsimp only at hSw); go_simp; (try (with_reducible rfl))) (by assumption) ?_
            simp only [Act.put, List.setIfInBounds_toArray, List.set_cons_zero, List.set_cons_succ]
            refine held_take 6 37 (.int .i64 x.phase) rfl rfl (by kernel_rfl) (by kernel_rfl) (by kernel_rfl) (fun _ _ _ h => h) (by rfl) (by intro w' hSw; (try dsimp only at hSw); go_simp; (try (with_reducible rfl))) (by assumption) ?_
            simp only [Act.put, List.setIfInBounds_toArray, List.set_cons_zero, List.set_cons_succ]
            refine held_take 7 38 (.bool false) rfl rfl (by kernel_rfl) (by kernel_rfl) (by kernel_rfl) (fun _ _ _ h => h) (by rfl) (by intro w' hSw; (try dsimp only at hSw); go_simp; (first | done | with_reducible rfl | (have hh := HPH.out.1; simp; omega))) (by assumption) ?_
            simp only [Act.put, List.setIfInBounds_toArray, List.set_cons_zero, List.set_cons_succ]
            refine held_take 8 39 (.bool false) rfl rfl (by kernel_rfl) (by kernel_rfl) (by kernel_rfl) (fun _ _ _ h => h) (by rfl) (by intro w' hSw; (try dsimp only at hSw); go_simp; (try (with_reducible rfl))) (by assumption) ?_
            simp only [Act.put, List.setIfInBounds_toArray, List.set_cons_zero, List.set_cons_succ]
            refine held_take 9 40 (.bool false) rfl rfl (by kernel_rfl) (by kernel_rfl) (by kernel_rfl) (fun _ _ _ h => h) (by rfl) (by intro w' hSw; (try dsimp only at hSw); go_simp; (try (with_reducible rfl))) (by assumption) ?_
            simp only [Act.put, List.setIfInBounds_toArray, List.set_cons_zero, List.set_cons_succ]
            refine held_take 10 41 (.pointer (some ⟨N, 11, none⟩)) rfl rfl (by kernel_rfl) (by kernel_rfl) (by kernel_rfl) (fun _ _ _ h => h) (by rfl) (by intro w' hSw; (try dsimp only at hSw); go_simp; (try (with_reducible rfl))) (by assumption) ?_
            simp only [Act.put, List.setIfInBounds_toArray, List.set_cons_zero, List.set_cons_succ]
            refine held_take 11 42 (.int .i64 x.phase) rfl rfl (by kernel_rfl) (by kernel_rfl) (by kernel_rfl) (fun _ _ _ h => h) (by rfl) (by intro w' hSw; (try dsimp only at hSw); go_simp; (try (with_reducible rfl))) (by assumption) ?_
            simp only [Act.put, List.setIfInBounds_toArray, List.set_cons_zero, List.set_cons_succ]
            refine held_take 12 43 (.bool false) rfl rfl (by kernel_rfl) (by kernel_rfl) (by kernel_rfl) (fun _ _ _ h => h) (by rfl) (by intro w' hSw; (try dsimp only at hSw); go_simp; (first | done | with_reducible rfl | (have hh := HPH.out.2; simp; omega))) (by assumption) ?_
            simp only [Act.put, List.setIfInBounds_toArray, List.set_cons_zero, List.set_cons_succ]
            refine held_take 13 44 (.bool false) rfl rfl (by kernel_rfl) (by kernel_rfl) (by kernel_rfl) (fun _ _ _ h => h) (by rfl) (by intro w' hSw; (try dsimp only at hSw); go_simp; (try (with_reducible rfl))) (by assumption) ?_
            simp only [Act.put, List.setIfInBounds_toArray, List.set_cons_zero, List.set_cons_succ]
            refine held_take 14 45 (.bool false) rfl rfl (by kernel_rfl) (by kernel_rfl) (by kernel_rfl) (fun _ _ _ h => h) (by rfl) (by intro w' hSw; (try dsimp only at hSw); go_simp; (try (with_reducible rfl))) (by assumption) ?_
            simp only [Act.put, List.setIfInBounds_toArray, List.set_cons_zero, List.set_cons_succ]
            refine held_take 15 46 (.int .i64 (j + 1 : Nat)) rfl rfl (by kernel_rfl) (by kernel_rfl) (by kernel_rfl) (fun _ _ _ h => h) (by rfl) (by intro w' hSw; (try dsimp only at hSw); go_simp; (try (with_reducible rfl))) (by assumption) ?_
            simp only [Act.put, List.setIfInBounds_toArray, List.set_cons_zero, List.set_cons_succ]
            refine held_take 16 47 (.bool true) rfl rfl (by kernel_rfl) (by kernel_rfl) (by kernel_rfl) (fun _ _ _ h => h) (by rfl) (by intro w' hSw; (try dsimp only at hSw); go_simp; (first | done | with_reducible rfl | (first | done | with_reducible rfl | omega | (simp; done) | (rw [IntKind.wrap_i64]; omega) | (simp; omega)))) (by assumption) ?_
            simp only [Act.put, List.setIfInBounds_toArray, List.set_cons_zero, List.set_cons_succ]
            refine held_take 17 48 (.bool true) rfl rfl (by kernel_rfl) (by kernel_rfl) (by kernel_rfl) (fun _ _ _ h => h) (by rfl) (by intro w' hSw; (try dsimp only at hSw); go_simp; (try (with_reducible rfl))) (by assumption) ?_
            simp only [Act.put, List.setIfInBounds_toArray, List.set_cons_zero, List.set_cons_succ]
            refine held_take 18 49 (.pointer (some ⟨w.heap.size, 1, none⟩)) rfl rfl (by kernel_rfl) (by kernel_rfl) (by kernel_rfl) (fun _ _ _ h => h) (by rfl) (by intro w' hSw; (try dsimp only at hSw); go_simp; (try (with_reducible rfl))) (by assumption) ?_
            simp only [Act.put, List.setIfInBounds_toArray, List.set_cons_zero, List.set_cons_succ]
            refine held_take 19 50 (.slice (some ⟨b, off, none⟩) l.length c) rfl rfl (by kernel_rfl) (by kernel_rfl) (by kernel_rfl) (fun _ _ _ h => h) (by rfl) (by intro w' hSw; (try dsimp only at hSw); go_simp; (try (with_reducible rfl))) (by assumption) ?_
            simp only [Act.put, List.setIfInBounds_toArray, List.set_cons_zero, List.set_cons_succ]
            refine held_take 20 51 (.int .i64 (j + 1 : Nat)) rfl rfl (by kernel_rfl) (by kernel_rfl) (by kernel_rfl) (fun _ _ _ h => h) (by rfl) (by intro w' hSw; (try dsimp only at hSw); go_simp; (try (with_reducible rfl))) (by assumption) ?_
            simp only [Act.put, List.setIfInBounds_toArray, List.set_cons_zero, List.set_cons_succ]
            refine held_take 21 52 (.int .i64 j) rfl rfl (by kernel_rfl) (by kernel_rfl) (by kernel_rfl) (fun _ _ _ h => h) (by rfl) (by intro w' hSw; (try dsimp only at hSw); go_simp; (first | done | with_reducible rfl | (first | done | with_reducible rfl | omega | (simp; done) | (rw [IntKind.wrap_i64]; omega) | (simp; omega)))) (by assumption) ?_
            simp only [Act.put, List.setIfInBounds_toArray, List.set_cons_zero, List.set_cons_succ]
            refine held_take 22 53 (.pointer (some ⟨b, off + j * 12, none⟩)) rfl rfl (by kernel_rfl) (by kernel_rfl) (by kernel_rfl) (fun _ _ _ h => h) (by rfl) (by intro w' hSw; (try dsimp only at hSw); go_simp; (try (with_reducible rfl))) (by assumption) ?_
            simp only [Act.put, List.setIfInBounds_toArray, List.set_cons_zero, List.set_cons_succ]
            refine held_take 23 54 (.pointer (some ⟨b, off + j * 12, none⟩)) rfl rfl (by kernel_rfl) (by kernel_rfl) (by kernel_rfl) (fun _ _ _ h => h) (by rfl) (by intro w' hSw; (try dsimp only at hSw); go_simp; (try (with_reducible rfl))) (by assumption) ?_
            simp only [Act.put, List.setIfInBounds_toArray, List.set_cons_zero, List.set_cons_succ]
            refine held_take 24 55 (.pointer (some ⟨b, off + j * 12, none⟩)) rfl rfl (by kernel_rfl) (by kernel_rfl) (by kernel_rfl) (fun _ _ _ h => h) (by rfl) (by intro w' hSw; (try dsimp only at hSw); go_simp; (try (with_reducible rfl))) (by assumption) ?_
            simp only [Act.put, List.setIfInBounds_toArray, List.set_cons_zero, List.set_cons_succ]
            refine held_take 25 56 (.string y.pod.id) rfl rfl (by kernel_rfl) (by kernel_rfl) (by kernel_rfl) (fun _ _ _ h => h) (by rfl) (by intro w' hSw; (try dsimp only at hSw); go_simp; (try (with_reducible rfl))) (by assumption) ?_
            simp only [Act.put, List.setIfInBounds_toArray, List.set_cons_zero, List.set_cons_succ]
            refine held_take 26 57 (.pointer (some ⟨N, 0, none⟩)) rfl rfl (by kernel_rfl) (by kernel_rfl) (by kernel_rfl) (fun _ _ _ h => h) (by rfl) (by intro w' hSw; (try dsimp only at hSw); go_simp; (try (with_reducible rfl))) (by assumption) ?_
            simp only [Act.put, List.setIfInBounds_toArray, List.set_cons_zero, List.set_cons_succ]
            refine held_take 27 58 (.pointer (some ⟨N, 0, none⟩)) rfl rfl (by kernel_rfl) (by kernel_rfl) (by kernel_rfl) (fun _ _ _ h => h) (by rfl) (by intro w' hSw; (try dsimp only at hSw); go_simp; (try (with_reducible rfl))) (by assumption) ?_
            simp only [Act.put, List.setIfInBounds_toArray, List.set_cons_zero, List.set_cons_succ]
            refine held_take 28 59 (.string x.pod.id) rfl rfl (by kernel_rfl) (by kernel_rfl) (by kernel_rfl) (fun _ _ _ h => h) (by rfl) (by intro w' hSw; (try dsimp only at hSw); go_simp; (try (with_reducible rfl))) (by assumption) ?_
            simp only [Act.put, List.setIfInBounds_toArray, List.set_cons_zero, List.set_cons_succ]
            refine held_take 29 60 (.bool true) rfl rfl (by kernel_rfl) (by kernel_rfl) (by kernel_rfl) (fun _ _ _ h => h) (by rfl) (by intro w' hSw; (try dsimp only at hSw); go_simp; (first | done | with_reducible rfl | (have hh := HBL.out; unfold blt at hh; simp [hh]))) (by assumption) ?_
            simp only [Act.put, List.setIfInBounds_toArray, List.set_cons_zero, List.set_cons_succ]
            refine held_take 30 61 (.bool true) rfl rfl (by kernel_rfl) (by kernel_rfl) (by kernel_rfl) (fun _ _ _ h => h) (by rfl) (by intro w' hSw; (try dsimp only at hSw); go_simp; (try (with_reducible rfl))) (by assumption) ?_
            simp only [Act.put, List.setIfInBounds_toArray, List.set_cons_zero, List.set_cons_succ]
            refine held_take 31 62 (.bool true) rfl rfl (by kernel_rfl) (by kernel_rfl) (by kernel_rfl) (fun _ _ _ h => h) (by rfl) (by intro w' hSw; (try dsimp only at hSw); go_simp; (try (with_reducible rfl))) (by assumption) ?_
            simp only [Act.put, List.setIfInBounds_toArray, List.set_cons_zero, List.set_cons_succ]
            refine wpAnyH_done (by kernel_rfl) ?_ _
            clear hHeld
            go_wp2_with fail
            go_ret
            exact ⟨ret_bool HN.out.symm, HQ.out.bel⟩
          · have HYS := Lib.hid (HY2.out hbl)
            have HPR := Lib.hid (rightE_un hre).1
            have HPH := Lib.hid (rightE_un hre).2
            clear hre
            have HBL := Lib.hid hbl
            clear hbl
            have HE := Lib.hid HE.out.drew
            have HQ := Lib.hid HQ.out.drew
            have HRX := Lib.hid HRX.out.drew
            refine wp_region_held_drew (S := (fun w' => w'.cell? ⟨N, 0, none⟩ = some (.string x.pod.id) ∧ w'.cell? ⟨N, 1, none⟩ = some (.int .i64 x.pod.prio) ∧ w'.cell? ⟨N, 2, none⟩ = some (.bool x.pod.crit) ∧ w'.cell? ⟨N, 3, none⟩ = some (.int .i64 x.pod.q0) ∧ w'.cell? ⟨N, 4, none⟩ = some (.int .i64 x.pod.q1) ∧ w'.cell? ⟨N, 5, none⟩ = some (.int .i64 x.pod.q2) ∧ w'.cell? ⟨N, 6, none⟩ = some (.int .i64 x.pod.l0) ∧ w'.cell? ⟨N, 7, none⟩ = some (.int .i64 x.pod.l1) ∧ w'.cell? ⟨N, 8, none⟩ = some (.int .i64 x.pod.l2) ∧ w'.cell? ⟨N, 9, none⟩ = some (.string x.pod.image) ∧ w'.cell? ⟨N, 10, none⟩ = some (.int .i64 x.pod.size) ∧ w'.cell? ⟨N, 11, none⟩ = some (.int .i64 x.phase) ∧ w'.cell? ⟨w.heap.size, 1, none⟩ = some (.slice (some ⟨b, off, none⟩) l.length c) ∧ w'.cell? ⟨b, off + j * 12, none⟩ = some (.string y.pod.id))) (by kernel_rfl) (⟨HE.out.cell 0, HE.out.cell 1, HE.out.cell 2, HE.out.cell 3, HE.out.cell 4, HE.out.cell 5, HE.out.cell 6, HE.out.cell 7, HE.out.cell 8, HE.out.cell 9, HE.out.cell 10, HE.out.cell 11, HQ.out.sb.cell 1, (HRX.out.enAt (Below.refl _ _) HYJ.out).1⟩) (fun hHeld => ?_)
            generalize W5.drew = wd at *
            refine held_take 0 31 (.pointer (some ⟨N, 0, none⟩)) rfl rfl (by kernel_rfl) (by kernel_rfl) (by kernel_rfl) (fun _ _ _ h => h) (by rfl) (by intro w' hSw; (try dsimp only at hSw); go_simp; (try (with_reducible rfl))) (by assumption) ?_
            simp only [Act.put, List.setIfInBounds_toArray, List.set_cons_zero, List.set_cons_succ]
            refine held_take 1 32 (.agg #[.string x.pod.id, .int .i64 x.pod.prio, .bool x.pod.crit, .int .i64 x.pod.q0, .int .i64 x.pod.q1, .int .i64 x.pod.q2, .int .i64 x.pod.l0, .int .i64 x.pod.l1, .int .i64 x.pod.l2, .string x.pod.image, .int .i64 x.pod.size]) rfl rfl (by kernel_rfl) (by kernel_rfl) (by kernel_rfl) (fun _ _ _ h => h) (by rfl) (by intro w' hSw; (try dsimp only at hSw); go_simp; (try (with_reducible rfl))) (by assumption) ?_
            simp only [Act.put, List.setIfInBounds_toArray, List.set_cons_zero, List.set_cons_succ]
            refine held_call 2 33 rfl rfl (by kernel_rfl) (by rfl) (fun K hK => ?_)
            go_simp
            go_at_call 22; with_reducible refine (rightV_any HPR.out _ HWX.out).mono ?_; rintro e w6 ⟨rfl, hb⟩
            have HE := Lib.hid (HE.out.belowAll hb)
            have HQ := Lib.hid (HQ.out.below hb)
            have HRX := Lib.hid (HRX.out.below hb)
            clear hb
            refine hK _ _ (⟨HE.out.cell 0, HE.out.cell 1, HE.out.cell 2, HE.out.cell 3, HE.out.cell 4, HE.out.cell 5, HE.out.cell 6, HE.out.cell 7, HE.out.cell 8, HE.out.cell 9, HE.out.cell 10, HE.out.cell 11, HQ.out.sb.cell 1, (HRX.out.enAt (Below.refl _ _) HYJ.out).1⟩) ?_
            have hHeld := (show w6.cell? ⟨N, 0, none⟩ = some (.string x.pod.id) ∧ w6.cell? ⟨N, 1, none⟩ = some (.int .i64 x.pod.prio) ∧ w6.cell? ⟨N, 2, none⟩ = some (.bool x.pod.crit) ∧ w6.cell? ⟨N, 3, none⟩ = some (.int .i64 x.pod.q0) ∧ w6.cell? ⟨N, 4, none⟩ = some (.int .i64 x.pod.q1) ∧ w6.cell? ⟨N, 5, none⟩ = some (.int .i64 x.pod.q2) ∧ w6.cell? ⟨N, 6, none⟩ = some (.int .i64 x.pod.l0) ∧ w6.cell? ⟨N, 7, none⟩ = some (.int .i64 x.pod.l1) ∧ w6.cell? ⟨N, 8, none⟩ = some (.int .i64 x.pod.l2) ∧ w6.cell? ⟨N, 9, none⟩ = some (.string x.pod.image) ∧ w6.cell? ⟨N, 10, none⟩ = some (.int .i64 x.pod.size) ∧ w6.cell? ⟨N, 11, none⟩ = some (.int .i64 x.phase) ∧ w6.cell? ⟨w.heap.size, 1, none⟩ = some (.slice (some ⟨b, off, none⟩) l.length c) ∧ w6.cell? ⟨b, off + j * 12, none⟩ = some (.string y.pod.id) from ⟨HE.out.cell 0, HE.out.cell 1, HE.out.cell 2, HE.out.cell 3, HE.out.cell 4, HE.out.cell 5, HE.out.cell 6, HE.out.cell 7, HE.out.cell 8, HE.out.cell 9, HE.out.cell 10, HE.out.cell 11, HQ.out.sb.cell 1, (HRX.out.enAt (Below.refl _ _) HYJ.out).1⟩)
            clear hK K
            simp only [Act.put, List.setIfInBounds_toArray, List.set_cons_zero, List.set_cons_succ]
            refine held_take 3 34 (.bool false) rfl rfl (by kernel_rfl) (by kernel_rfl) (by kernel_rfl) (fun _ _ _ h => h) (by rfl) (by intro w' hSw; (try dsimp only at hSw); go_simp; (try (with_reducible rfl))) (by assumption) ?_
            simp only [Act.put, List.setIfInBounds_toArray, List.set_cons_zero, List.set_cons_succ]
            refine held_take 4 35 (.bool false) rfl rfl (by kernel_rfl) (by kernel_rfl) (by kernel_rfl) (fun _ _ _ h => h) (by rfl) (by intro w' hSw; (try dsimp only at hSw); go_simp; (try (with_reducible rfl))) (by assumption) ?_
            simp only [Act.put, List.setIfInBounds_toArray, List.set_cons_zero, List.set_cons_succ]
            refine held_take 5 36 (.pointer (some ⟨N, 11, none⟩)) rfl rfl (by kernel_rfl) (by kernel_rfl) (by kernel_rfl) (fun _ _ _ h => h) (by rfl) (by intro w' hSw; (try dsimp only at hSw); go_simp; (try (with_reducible rfl))) (by assumption) ?_
            simp only [Act.put, List.setIfInBounds_toArray, List.set_cons_zero, List.set_cons_succ]
            refine held_take 6 37 (.int .i64 x.phase) rfl rfl (by kernel_rfl) (by kernel_rfl) (by kernel_rfl) (fun _ _ _ h => h) (by rfl) (by intro w' hSw; (try dsimp only at hSw); go_simp; (try (with_reducible rfl))) (by assumption) ?_
            simp only [Act.put, List.setIfInBounds_toArray, List.set_cons_zero, List.set_cons_succ]
            refine held_take 7 38 (.bool false) rfl rfl (by kernel_rfl) (by kernel_rfl) (by kernel_rfl) (fun _ _ _ h => h) (by rfl) (by intro w' hSw; (try dsimp only at hSw); go_simp; (first | done | with_reducible rfl | (have hh := HPH.out.1; simp; omega))) (by assumption) ?_
            simp only [Act.put, List.setIfInBounds_toArray, List.set_cons_zero, List.set_cons_succ]
            refine held_take 8 39 (.bool false) rfl rfl (by kernel_rfl) (by kernel_rfl) (by kernel_rfl) (fun _ _ _ h => h) (by rfl) (by intro w' hSw; (try dsimp only at hSw); go_simp; (try (with_reducible rfl))) (by assumption) ?_
            simp only [Act.put, List.setIfInBounds_toArray, List.set_cons_zero, List.set_cons_succ]
            refine held_take 9 40 (.bool false) rfl rfl (by kernel_rfl) (by kernel_rfl) (by kernel_rfl) (fun _ _ _ h => h) (by rfl) (by intro w' hSw; (try dsimp only at hSw); go_simp; (try (with_reducible rfl))) (by assumption) ?_
            simp only [Act.put, List.setIfInBounds_toArray, List.set_cons_zero, List.set_cons_succ]
            refine held_take 10 41 (.pointer (some ⟨N, 11, none⟩)) rfl rfl (by kernel_rfl) (by kernel_rfl) (by kernel_rfl) (fun _ _ _ h => h) (by rfl) (by intro w' hSw; (try dsimp only at hSw); go_simp; (try (with_reducible rfl))) (by assumption) ?_
            simp only [Act.put, List.setIfInBounds_toArray, List.set_cons_zero, List.set_cons_succ]
            refine held_take 11 42 (.int .i64 x.phase) rfl rfl (by kernel_rfl) (by kernel_rfl) (by kernel_rfl) (fun _ _ _ h => h) (by rfl) (by intro w' hSw; (try dsimp only at hSw); go_simp; (try (with_reducible rfl))) (by assumption) ?_
            simp only [Act.put, List.setIfInBounds_toArray, List.set_cons_zero, List.set_cons_succ]
            refine held_take 12 43 (.bool false) rfl rfl (by kernel_rfl) (by kernel_rfl) (by kernel_rfl) (fun _ _ _ h => h) (by rfl) (by intro w' hSw; (try dsimp only at hSw); go_simp; (first | done | with_reducible rfl | (have hh := HPH.out.2; simp; omega))) (by assumption) ?_
            simp only [Act.put, List.setIfInBounds_toArray, List.set_cons_zero, List.set_cons_succ]
            refine held_take 13 44 (.bool false) rfl rfl (by kernel_rfl) (by kernel_rfl) (by kernel_rfl) (fun _ _ _ h => h) (by rfl) (by intro w' hSw; (try dsimp only at hSw); go_simp; (try (with_reducible rfl))) (by assumption) ?_
            simp only [Act.put, List.setIfInBounds_toArray, List.set_cons_zero, List.set_cons_succ]
            refine held_take 14 45 (.bool false) rfl rfl (by kernel_rfl) (by kernel_rfl) (by kernel_rfl) (fun _ _ _ h => h) (by rfl) (by intro w' hSw; (try dsimp only at hSw); go_simp; (try (with_reducible rfl))) (by assumption) ?_
            simp only [Act.put, List.setIfInBounds_toArray, List.set_cons_zero, List.set_cons_succ]
            refine held_take 15 46 (.int .i64 (j + 1 : Nat)) rfl rfl (by kernel_rfl) (by kernel_rfl) (by kernel_rfl) (fun _ _ _ h => h) (by rfl) (by intro w' hSw; (try dsimp only at hSw); go_simp; (try (with_reducible rfl))) (by assumption) ?_
            simp only [Act.put, List.setIfInBounds_toArray, List.set_cons_zero, List.set_cons_succ]
            refine held_take 16 47 (.bool true) rfl rfl (by kernel_rfl) (by kernel_rfl) (by kernel_rfl) (fun _ _ _ h => h) (by rfl) (by intro w' hSw; (try dsimp only at hSw); go_simp; (first | done | with_reducible rfl | (first | done | with_reducible rfl | omega | (simp; done) | (rw [IntKind.wrap_i64]; omega) | (simp; omega)))) (by assumption) ?_
            simp only [Act.put, List.setIfInBounds_toArray, List.set_cons_zero, List.set_cons_succ]
            refine held_take 17 48 (.bool true) rfl rfl (by kernel_rfl) (by kernel_rfl) (by kernel_rfl) (fun _ _ _ h => h) (by rfl) (by intro w' hSw; (try dsimp only at hSw); go_simp; (try (with_reducible rfl))) (by assumption) ?_
            simp only [Act.put, List.setIfInBounds_toArray, List.set_cons_zero, List.set_cons_succ]
            refine held_take 18 49 (.pointer (some ⟨w.heap.size, 1, none⟩)) rfl rfl (by kernel_rfl) (by kernel_rfl) (by kernel_rfl) (fun _ _ _ h => h) (by rfl) (by intro w' hSw; (try dsimp only at hSw); go_simp; (try (with_reducible rfl))) (by assumption) ?_
            simp only [Act.put, List.setIfInBounds_toArray, List.set_cons_zero, List.set_cons_succ]
            refine held_take 19 50 (.slice (some ⟨b, off, none⟩) l.length c) rfl rfl (by kernel_rfl) (by kernel_rfl) (by kernel_rfl) (fun _ _ _ h => h) (by rfl) (by intro w' hSw; (try dsimp only at hSw); go_simp; (try (with_reducible rfl))) (by assumption) ?_
            simp only [Act.put, List.setIfInBounds_toArray, List.set_cons_zero, List.set_cons_succ]
            refine held_take 20 51 (.int .i64 (j + 1 : Nat)) rfl rfl (by kernel_rfl) (by kernel_rfl) (by kernel_rfl) (fun _ _ _ h => h) (by rfl) (by intro w' hSw; (try dsimp only at hSw); go_simp; (try (with_reducible rfl))) (by assumption) ?_
            simp only [Act.put, List.setIfInBounds_toArray, List.set_cons_zero, List.set_cons_succ]
            refine held_take 21 52 (.int .i64 j) rfl rfl (by kernel_rfl) (by kernel_rfl) (by kernel_rfl) (fun _ _ _ h => h) (by rfl) (by intro w' hSw; (try dsimp only at hSw); go_simp; (first | done | with_reducible rfl | (first | done | with_reducible rfl | omega | (simp; done) | (rw [IntKind.wrap_i64]; omega) | (simp; omega)))) (by assumption) ?_
            simp only [Act.put, List.setIfInBounds_toArray, List.set_cons_zero, List.set_cons_succ]
            refine held_take 22 53 (.pointer (some ⟨b, off + j * 12, none⟩)) rfl rfl (by kernel_rfl) (by kernel_rfl) (by kernel_rfl) (fun _ _ _ h => h) (by rfl) (by intro w' hSw; (try dsimp only at hSw); go_simp; (try (with_reducible rfl))) (by assumption) ?_
            simp only [Act.put, List.setIfInBounds_toArray, List.set_cons_zero, List.set_cons_succ]
            refine held_take 23 54 (.pointer (some ⟨b, off + j * 12, none⟩)) rfl rfl (by kernel_rfl) (by kernel_rfl) (by kernel_rfl) (fun _ _ _ h => h) (by rfl) (by intro w' hSw; (try dsimp only at hSw); go_simp; (try (with_reducible rfl))) (by assumption) ?_
            simp only [Act.put, List.setIfInBounds_toArray, List.set_cons_zero, List.set_cons_succ]
            refine held_take 24 55 (.pointer (some ⟨b, off + j * 12, none⟩)) rfl rfl (by kernel_rfl) (by kernel_rfl) (by kernel_rfl) (fun _ _ _ h => h) (by rfl) (by intro w' hSw; (try dsimp only at hSw); go_simp; (try (with_reducible rfl))) (by assumption) ?_
            simp only [Act.put, List.setIfInBounds_toArray, List.set_cons_zero, List.set_cons_succ]
            refine held_take 25 56 (.string y.pod.id) rfl rfl (by kernel_rfl) (by kernel_rfl) (by kernel_rfl) (fun _ _ _ h => h) (by rfl) (by intro w' hSw; (try dsimp only at hSw); go_simp; (try (with_reducible rfl))) (by assumption) ?_
            simp only [Act.put, List.setIfInBounds_toArray, List.set_cons_zero, List.set_cons_succ]
            refine held_take 26 57 (.pointer (some ⟨N, 0, none⟩)) rfl rfl (by kernel_rfl) (by kernel_rfl) (by kernel_rfl) (fun _ _ _ h => h) (by rfl) (by intro w' hSw; (try dsimp only at hSw); go_simp; (try (with_reducible rfl))) (by assumption) ?_
            simp only [Act.put, List.setIfInBounds_toArray, List.set_cons_zero, List.set_cons_succ]
            refine held_take 27 58 (.pointer (some ⟨N, 0, none⟩)) rfl rfl (by kernel_rfl) (by kernel_rfl) (by kernel_rfl) (fun _ _ _ h => h) (by rfl) (by intro w' hSw; (try dsimp only at hSw); go_simp; (try (with_reducible rfl))) (by assumption) ?_
            simp only [Act.put, List.setIfInBounds_toArray, List.set_cons_zero, List.set_cons_succ]
            refine held_take 28 59 (.string x.pod.id) rfl rfl (by kernel_rfl) (by kernel_rfl) (by kernel_rfl) (fun _ _ _ h => h) (by rfl) (by intro w' hSw; (try dsimp only at hSw); go_simp; (try (with_reducible rfl))) (by assumption) ?_
            simp only [Act.put, List.setIfInBounds_toArray, List.set_cons_zero, List.set_cons_succ]
            refine held_take 29 60 (.bool false) rfl rfl (by kernel_rfl) (by kernel_rfl) (by kernel_rfl) (fun _ _ _ h => h) (by rfl) (by intro w' hSw; (try dsimp only at hSw); go_simp; (first | done | with_reducible rfl | (have hh := HBL.out; unfold blt at hh; simp [hh]))) (by assumption) ?_
            simp only [Act.put, List.setIfInBounds_toArray, List.set_cons_zero, List.set_cons_succ]
            refine held_take 30 61 (.bool false) rfl rfl (by kernel_rfl) (by kernel_rfl) (by kernel_rfl) (fun _ _ _ h => h) (by rfl) (by intro w' hSw; (try dsimp only at hSw); go_simp; (try (with_reducible rfl))) (by assumption) ?_
            simp only [Act.put, List.setIfInBounds_toArray, List.set_cons_zero, List.set_cons_succ]
            refine held_take 31 62 (.bool false) rfl rfl (by kernel_rfl) (by kernel_rfl) (by kernel_rfl) (fun _ _ _ h => h) (by rfl) (by intro w' hSw; (try dsimp only at hSw); go_simp; (try (with_reducible rfl))) (by assumption) ?_
            simp only [Act.put, List.setIfInBounds_toArray, List.set_cons_zero, List.set_cons_succ]
            refine wpAnyH_done (by kernel_rfl) ?_ _
            clear hHeld
            go_wp2_with fail
            go_roundw
            case rel => exact ⟨j + 1 + 1, by omega, by go_num, HYS.out, HQ.out⟩
            case measure => simp [intOf]; omega
    · obtain rfl : i = l.length := by omega
      have dk : decide ((l.length : Int) < (l.length : Int)) = false := by simp
      have HN : Hid (v = true) := HV.out.2 ⟨HLE.out.1, HLE.out.2.1, HLE.out.2.2, HOK.out⟩
      have cs := HQ.out.sb.cell
      go_wp2_with fail
      go_ret
      exact ⟨ret_bool HN.out.symm, HQ.out.bel⟩
end Go.Proofs.YtakgblgbfbpmoaaDoor
