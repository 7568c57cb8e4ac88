/- bilgeref21.Fit: may a room, a list and a pod be? -/
import Derived.Test.YtabbkembpghfdaaVAwake
namespace Go.Proofs.Ytabbkembpghfdaa
open Go.RowKit

theorem toList_injV {a b : ByteArray} (h : (a.toList == b.toList) = true) : a = b := by
  have h := eq_of_beq h
  rw [ByteArray.toList_eq, ByteArray.toList_eq] at h
  exact ByteArray.ext (Array.toList_inj.1 h)
theorem toList_neV {a b : ByteArray} (h : (a.toList == b.toList) = false) : a ≠ b := fun e => by subst e; simp at h
theorem refSmallV {p : Pd} {v : Bool} (hv : p.small = v) (w : World) :
    Calls Try.prog 25 #[.agg p.cells] w fun e w' => e = .returned (.bool v) ∧ Below w.heap.size w w' := by subst hv; exact small_any p w
theorem refRightV {p : Pd} {v : Bool} (hv : p.right = v) (w : World) (hp : p.Wf) :
    Calls Try.prog 26 #[.agg p.cells] w fun e w' => e = .returned (.bool v) ∧ Below w.heap.size w w' := by subst hv; exact refRight_any p w hp
structure OkPd (l : List Pd) (p : Pd) (i : Nat) (hi : i < l.length) : Prop where
  s : l[i].small = true
  r : l[i].right = true
  n : l[i].id ≠ p.id
  d : ∀ j (hj : j < i), l[j].id ≠ l[i].id
def OkPdTo (l : List Pd) (p : Pd) (k : Nat) : Prop := ∀ i (hi : i < l.length), i < k → OkPd l p i hi
structure FitV (room : S3) (l : List Pd) (p : Pd) : Prop where
  len : l.length ≤ 64
  a : 0 ≤ room.a
  b : 0 ≤ room.b
  c : 0 ≤ room.c
  s : p.small = true
  r : p.right = true
  ok : OkPdTo l p l.length
theorem OkPdTo.snoc {l : List Pd} {p : Pd} {k : Nat} (hk : k < l.length) (h : OkPdTo l p k) (a : OkPd l p k hk) : OkPdTo l p (k + 1) := fun i hi h2 => by
  rcases Nat.lt_or_ge i k with h3 | h3
  · exact h i hi h3
  · obtain rfl : i = k := by omega
    exact a
theorem FitV.no {room : S3} {l : List Pd} {p : Pd} {v : Bool} (hv : v = true ↔ FitV room l p) (h : ¬ FitV room l p) : v = false := by
  cases v
  · rfl
  · exact absurd (hv.1 rfl) h
def NotInV (l : List Pd) (s : ByteArray) (k : Nat) : Prop := ∀ j (hj : j < l.length), j < k → l[j].id ≠ s
theorem NotInV.snoc {l : List Pd} {s : ByteArray} {k : Nat} (hk : k < l.length) (h : NotInV l s k) (he : (l[k].id.toList == s.toList) = false) : NotInV l s (k + 1) := fun j hj h2 => by
  rcases Nat.lt_or_ge j k with h3 | h3
  · exact h j hj h3
  · obtain rfl : j = k := by omega
    exact toList_neV he
structure FQ (room : S3) (p : Pd) (A : Option Addr) (l : List Pd) (w W : World) : Prop where
  rm : Blk W (w.heap.size) 22 #[.int .i64 room.a, .int .i64 room.b, .int .i64 room.c]
  pb : Blk W (w.heap.size + 1) 25 #[.string p.id, .int .i64 p.prio, .bool p.crit, .int .i64 p.q0, .int .i64 p.q1, .int .i64 p.q2, .int .i64 p.l0, .int .i64 p.l1, .int .i64 p.l2, .string p.image, .int .i64 p.size]
  rd : Rds W encP A l
  bel : Below w.heap.size w W
theorem FQ.below {room : S3} {p : Pd} {A : Option Addr} {l : List Pd} {w W W' : World} (h : FQ room p A l w W) (hb : Below W.heap.size W W') : FQ room p A l w W' := ⟨h.rm.belowAll hb, h.pb.belowAll hb, h.rd.below hb, h.bel.trans (hb.mono h.bel.size)⟩
theorem FQ.alloc {room : S3} {p : Pd} {A : Option Addr} {l : List Pd} {w W : World} (h : FQ room p A l w W) (o : Obj) : FQ room p A l w (W.alloc o) := ⟨h.rm.alloc o, h.pb.alloc o, h.rd.alloc o, h.bel.alloc h.bel.size o⟩
theorem FQ.drew {room : S3} {p : Pd} {A : Option Addr} {l : List Pd} {w W : World} (h : FQ room p A l w W) : FQ room p A l w W.drew := ⟨h.rm.drew, h.pb.drew, h.rd.drew, h.bel.drew⟩
theorem FQ.at_ {room : S3} {p : Pd} {b off : Nat} {l : List Pd} {w W : World} (h : FQ room p (some ⟨b, off, none⟩) l w W) {i : Nat} {x : Pd} (hx : l[i]? = some x) : W.cell? ⟨b, off + i * 11, none⟩ = some (.string x.id) ∧ W.cell? ⟨b, off + i * 11 + 1, none⟩ = some (.int .i64 x.prio) ∧ W.cell? ⟨b, off + i * 11 + 2, none⟩ = some (.bool x.crit) ∧ W.cell? ⟨b, off + i * 11 + 3, none⟩ = some (.int .i64 x.q0) ∧ W.cell? ⟨b, off + i * 11 + 4, none⟩ = some (.int .i64 x.q1) ∧ W.cell? ⟨b, off + i * 11 + 5, none⟩ = some (.int .i64 x.q2) ∧ W.cell? ⟨b, off + i * 11 + 6, none⟩ = some (.int .i64 x.l0) ∧ W.cell? ⟨b, off + i * 11 + 7, none⟩ = some (.int .i64 x.l1) ∧ W.cell? ⟨b, off + i * 11 + 8, none⟩ = some (.int .i64 x.l2) ∧ W.cell? ⟨b, off + i * 11 + 9, none⟩ = some (.string x.image) ∧ W.cell? ⟨b, off + i * 11 + 10, none⟩ = some (.int .i64 x.size) ∧ W.cell? ⟨w.heap.size + 1, 0, none⟩ = some (.string p.id) := by
  obtain ⟨x0, x1, x2, x3, x4, x5, x6, x7, x8, x9, x10⟩ := h.rd.pdAt (Below.refl _ _) hx
  exact ⟨x0, x1, x2, x3, x4, x5, x6, x7, x8, x9, x10, h.pb.cell 0⟩
theorem FQ.new (room : S3) (p : Pd) {A : Option Addr} {l : List Pd} (w : World) (hr : Rds w encP A l) : FQ room p A l w ((w.alloc (.cells #[.int .i64 room.a, .int .i64 room.b, .int .i64 room.c] 22)).alloc (.cells #[.string p.id, .int .i64 p.prio, .bool p.crit, .int .i64 p.q0, .int .i64 p.q1, .int .i64 p.q2, .int .i64 p.l0, .int .i64 p.l1, .int .i64 p.l2, .string p.image, .int .i64 p.size] 25)) := by
  have hq := CQ.new room p w
  exact ⟨hq.rm, hq.pb, hr.below hq.bel, hq.bel⟩
set_option maxRecDepth 100000 in
set_option maxHeartbeats 16000000 in
theorem refFitV_any {room : S3} {p : Pd} {l : List Pd} {v : Bool} (hv : v = true ↔ FitV room l p) (A : Option Addr) (c : Nat) (w : World) (hr : Rds w encP A l) (hw : ∀ x ∈ l, x.Wf) (hp : p.Wf) (hm : l.length ≤ 9223372036854775807) :
    Calls Try.prog 13 #[.agg #[.int .i64 room.a, .int .i64 room.b, .int .i64 room.c], .slice A l.length c, .agg p.cells] w fun e w' => e = .returned (.bool v) ∧ Below w.heap.size w w' := by
  have HQ := Lib.hid (FQ.new room p w hr)
  have HV := Lib.hid hv
  have HW := Lib.hid hw
  have HPW := Lib.hid hp
  clear hr hv hw hp
  have mixed : Try.prog.follows Departure.mixedOrders = true := by kernel_rfl
  by_cases hl : l.length ≤ 64
  rotate_left
  · have HN : Hid (v = false) := FitV.no HV.out fun h => hl h.len
    have dl : decide ((64 : Int) < (l.length : Int)) = true := decide_eq_true (by omega)
    have dln : decide (64 < l.length) = true := decide_eq_true (by omega)
    clear hl
    go_enter Try.func13, Try.ntmps13
    go_wp2_with fail
    go_ret
    exact ⟨ret_bool HN.out.symm, HQ.out.bel⟩
  have dl : decide ((64 : Int) < (l.length : Int)) = false := decide_eq_false (by omega)
  have dln : decide (64 < l.length) = false := decide_eq_false (by omega)
  by_cases ha : 0 ≤ room.a
  rotate_left
  · have HN : Hid (v = false) := FitV.no HV.out fun h => ha h.a
    have da : decide (room.a < 0) = true := decide_eq_true (by omega)
    clear ha
    go_enter Try.func13, Try.ntmps13
    go_wp2_with fail
    go_ret
    exact ⟨ret_bool HN.out.symm, HQ.out.bel⟩
  have da : decide (room.a < 0) = false := decide_eq_false (by omega)
  by_cases hb' : 0 ≤ room.b
  rotate_left
  · have HN : Hid (v = false) := FitV.no HV.out fun h => hb' h.b
    have db : decide (room.b < 0) = true := decide_eq_true (by omega)
    clear hb'
    go_enter Try.func13, Try.ntmps13
    go_wp2_with fail
    go_ret
    exact ⟨ret_bool HN.out.symm, HQ.out.bel⟩
  have db : decide (room.b < 0) = false := decide_eq_false (by omega)
  by_cases hc : 0 ≤ room.c
  rotate_left
  · have HN : Hid (v = false) := FitV.no HV.out fun h => hc h.c
    have dc : decide (room.c < 0) = true := decide_eq_true (by omega)
    clear hc
    go_enter Try.func13, Try.ntmps13
    go_wp2_with fail
    go_ret
    exact ⟨ret_bool HN.out.symm, HQ.out.bel⟩
  have dc : decide (room.c < 0) = false := decide_eq_false (by omega)
  have cp := HQ.out.pb.cell
  cases hs : p.small
  · have HN := Lib.hid (FitV.no HV.out fun h => by have := h.s; rw [hs] at this; cases this)
    have HS := Lib.hid hs
    clear hs
    go_enter Try.func13, Try.ntmps13
    go_wp2_with fail
    refine (refSmallV HS.out _).mono ?_; rintro e w1 ⟨rfl, hb⟩
    have HQ := Lib.hid (HQ.out.below hb)
    clear hb cp
    go_wp2_with fail
    go_ret
    exact ⟨ret_bool HN.out.symm, HQ.out.bel⟩
  have HS := Lib.hid hs
  clear hs
  go_enter Try.func13, Try.ntmps13
  go_wp2_with fail
  refine (refSmallV HS.out _).mono ?_; rintro e w1 ⟨rfl, hb⟩
  have HQ := Lib.hid (HQ.out.below hb)
  clear hb cp
  have cp := HQ.out.pb.cell
  cases hrt : p.right
  · have HN := Lib.hid (FitV.no HV.out fun h => by have := h.r; rw [hrt] at this; cases this)
    have HRT := Lib.hid hrt
    clear hrt
    go_wp2_with fail
    refine (refRightV HRT.out _ HPW.out).mono ?_; rintro e w1 ⟨rfl, hb⟩
    have HQ := Lib.hid (HQ.out.below hb)
    clear hb cp
    go_wp2_with fail
    go_ret
    exact ⟨ret_bool HN.out.symm, HQ.out.bel⟩
  have HRT := Lib.hid hrt
  clear hrt
  go_wp2_with fail
  refine (refRightV HRT.out _ HPW.out).mono ?_; rintro e w1 ⟨rfl, hb⟩
  have HQ0 := Lib.hid (HQ.out.below hb)
  clear hb cp HQ
  have HVA : Hid (OkPdTo l p l.length → v = true) := fun h => HV.out.2 ⟨hl, ha, hb', hc, HS.out, HRT.out, h⟩
  clear HS HRT
  go_wp2_with fail
  go_loopw [7] (fun ii wr => ∃ i : Nat, i ≤ l.length ∧ ii = .int .i64 i ∧ OkPdTo l p i ∧ FQ room p A l w wr) (fun ii _ => l.length - (intOf ii).toNat)
  case atStart => exact ⟨0, by omega, rfl, fun _ _ h => by omega, HQ0.out⟩
  case round =>
    clear HQ0
    obtain ⟨i, hi, rfl, hok, hq⟩ := hrel
    have HOK := Lib.hid hok
    have HQ := Lib.hid hq
    clear hok hq
    by_cases hlt : i < l.length
    · obtain ⟨b, off, hA⟩ := HQ.out.rd.some_ hlt
      obtain rfl : A = some ⟨b, off, none⟩ := hA
      have dk : decide ((i : Int) < (l.length : Int)) = true := decide_eq_true (by omega)
      have dk2 : (i : Int) < (l.length : Int) := by omega
      have HXI := Lib.hid (List.getElem?_eq_getElem hlt)
      have HWX := Lib.hid (HW.out _ (List.getElem_mem hlt))
      have HNo := Lib.hid (show ¬ OkPd l p i hlt → v = false from fun h => FitV.no HV.out fun hf => h (hf.ok i hlt hlt))
      have HYes := Lib.hid (fun a : OkPd l p i hlt => HOK.out.snoc hlt a)
      have HMk := Lib.hid (show l[i].small = true → l[i].right = true → l[i].id ≠ p.id → NotInV l l[i].id i → OkPd l p i hlt from fun a1 a2 a3 a5 => ⟨a1, a2, a3, fun j hj => a5 j (by omega) hj⟩)
      have HUn := Lib.hid (show OkPd l p i hlt → l[i].small = true ∧ l[i].right = true ∧ l[i].id ≠ p.id from fun h => ⟨h.s, h.r, h.n⟩)
      have HI0 := Lib.hid (show ∀ (j : Nat) (hj : j < l.length), (l[j].id.toList == l[i].id.toList) = true → j < i → ¬ OkPd l p i hlt from fun j hj he hji h => h.d j hji (toList_injV he))
      generalize l[i] = x at *
      go_wp2_with fail
      cases hs : x.small
      · have HN := Lib.hid (HNo.out fun h => by have := (HUn.out h).1; rw [hs] at this; cases this)
        have HS := Lib.hid hs
        clear hs
        have HQ := Lib.hid HQ.out.drew
        have HX := Lib.hid (HQ.out.at_ HXI.out)
        refine wp_region_held_drew (S := (fun w' => w'.cell? ⟨b, off + i * 11, none⟩ = some (.string x.id) ∧ w'.cell? ⟨b, off + i * 11 + 1, none⟩ = some (.int .i64 x.prio) ∧ w'.cell? ⟨b, off + i * 11 + 2, none⟩ = some (.bool x.crit) ∧ w'.cell? ⟨b, off + i * 11 + 3, none⟩ = some (.int .i64 x.q0) ∧ w'.cell? ⟨b, off + i * 11 + 4, none⟩ = some (.int .i64 x.q1) ∧ w'.cell? ⟨b, off + i * 11 + 5, none⟩ = some (.int .i64 x.q2) ∧ w'.cell? ⟨b, off + i * 11 + 6, none⟩ = some (.int .i64 x.l0) ∧ w'.cell? ⟨b, off + i * 11 + 7, none⟩ = some (.int .i64 x.l1) ∧ w'.cell? ⟨b, off + i * 11 + 8, none⟩ = some (.int .i64 x.l2) ∧ w'.cell? ⟨b, off + i * 11 + 9, none⟩ = some (.string x.image) ∧ w'.cell? ⟨b, off + i * 11 + 10, none⟩ = some (.int .i64 x.size) ∧ w'.cell? ⟨w.heap.size + 1, 0, none⟩ = some (.string p.id))) (by kernel_rfl) (HX.out) (fun hHeld => ?_)
        refine held_take 0 43 (.slice (some ⟨b, off, none⟩) l.length c) rfl rfl (by kernel_rfl) (by kernel_rfl) (by kernel_rfl) (fun _ _ _ h => h) (by rfl) (by intro w' hSw; (try dsimp only at hSw); go_simp; (try (with_reducible rfl))) (by assumption) ?_
        simp only [Act.put, List.setIfInBounds_toArray, List.set_cons_zero, List.set_cons_succ]
        refine held_take 1 44 (.int .i64 i) rfl rfl (by kernel_rfl) (by kernel_rfl) (by kernel_rfl) (fun _ _ _ h => h) (by rfl) (by intro w' hSw; (try dsimp only at hSw); go_simp; (try (with_reducible rfl))) (by assumption) ?_
        simp only [Act.put, List.setIfInBounds_toArray, List.set_cons_zero, List.set_cons_succ]
        refine held_take 2 45 (.pointer (some ⟨b, off + i * 11, none⟩)) rfl rfl (by kernel_rfl) (by kernel_rfl) (by kernel_rfl) (fun _ _ _ h => h) (by rfl) (by intro w' hSw; (try dsimp only at hSw); go_simp; (try (with_reducible rfl))) (by assumption) ?_
        simp only [Act.put, List.setIfInBounds_toArray, List.set_cons_zero, List.set_cons_succ]
        refine held_take 3 46 (.agg #[.string x.id, .int .i64 x.prio, .bool x.crit, .int .i64 x.q0, .int .i64 x.q1, .int .i64 x.q2, .int .i64 x.l0, .int .i64 x.l1, .int .i64 x.l2, .string x.image, .int .i64 x.size]) rfl rfl (by kernel_rfl) (by kernel_rfl) (by kernel_rfl) (fun _ _ _ h => h) (by rfl) (by intro w' hSw; (try dsimp only at hSw); go_simp; (try (with_reducible rfl))) (by assumption) ?_
        simp only [Act.put, List.setIfInBounds_toArray, List.set_cons_zero, List.set_cons_succ]
        refine held_call 4 47 rfl rfl (by kernel_rfl) (by rfl) (fun K hK => ?_)
        go_simp
        go_at_call 25; with_reducible refine (refSmallV HS.out _).mono ?_; rintro e v1 ⟨rfl, hb⟩; have HQ := Lib.hid (HQ.out.below hb); have HX := Lib.hid (HQ.out.at_ HXI.out); clear hb
        refine hK _ _ (HX.out) ?_
        have hHeld := HX.out
        clear hK K
        simp only [Act.put, List.setIfInBounds_toArray, List.set_cons_zero, List.set_cons_succ]
        refine held_take 5 48 (.bool true) rfl rfl (by kernel_rfl) (by kernel_rfl) (by kernel_rfl) (fun _ _ _ h => h) (by rfl) (by intro w' hSw; (try dsimp only at hSw); go_simp; (try (with_reducible rfl))) (by assumption) ?_
        simp only [Act.put, List.setIfInBounds_toArray, List.set_cons_zero, List.set_cons_succ]
        refine held_take 6 49 (.bool true) rfl rfl (by kernel_rfl) (by kernel_rfl) (by kernel_rfl) (fun _ _ _ h => h) (by rfl) (by intro w' hSw; (try dsimp only at hSw); go_simp; (try (with_reducible rfl))) (by assumption) ?_
        simp only [Act.put, List.setIfInBounds_toArray, List.set_cons_zero, List.set_cons_succ]
        refine held_skip 7 50 rfl rfl (by kernel_rfl) (by kernel_rfl) (by kernel_rfl) (fun _ _ _ h => h) (by rfl) (by assumption) ?_
        simp only [Act.put, List.setIfInBounds_toArray, List.set_cons_zero, List.set_cons_succ]
        refine held_skip 8 51 rfl rfl (by kernel_rfl) (by kernel_rfl) (by kernel_rfl) (fun _ _ _ h => h) (by rfl) (by assumption) ?_
        simp only [Act.put, List.setIfInBounds_toArray, List.set_cons_zero, List.set_cons_succ]
        refine held_skip 9 52 rfl rfl (by kernel_rfl) (by kernel_rfl) (by kernel_rfl) (fun _ _ _ h => h) (by rfl) (by assumption) ?_
        simp only [Act.put, List.setIfInBounds_toArray, List.set_cons_zero, List.set_cons_succ]
        refine held_skip 10 53 rfl rfl (by kernel_rfl) (by kernel_rfl) (by kernel_rfl) (fun _ _ _ h => h) (by rfl) (by assumption) ?_
        simp only [Act.put, List.setIfInBounds_toArray, List.set_cons_zero, List.set_cons_succ]
        refine held_skip 11 54 rfl rfl (by kernel_rfl) (by kernel_rfl) (by kernel_rfl) (fun _ _ _ h => h) (by rfl) (by assumption) ?_
        simp only [Act.put, List.setIfInBounds_toArray, List.set_cons_zero, List.set_cons_succ]
        refine held_skip 12 55 rfl rfl (by kernel_rfl) (by kernel_rfl) (by kernel_rfl) (fun _ _ _ h => h) (by rfl) (by assumption) ?_
        simp only [Act.put, List.setIfInBounds_toArray, List.set_cons_zero, List.set_cons_succ]
        refine held_take 13 56 (.bool true) rfl rfl (by kernel_rfl) (by kernel_rfl) (by kernel_rfl) (fun _ _ _ h => h) (by rfl) (by intro w' hSw; (try dsimp only at hSw); go_simp; (try (with_reducible rfl))) (by assumption) ?_
        simp only [Act.put, List.setIfInBounds_toArray, List.set_cons_zero, List.set_cons_succ]
        refine held_take 14 57 (.bool true) rfl rfl (by kernel_rfl) (by kernel_rfl) (by kernel_rfl) (fun _ _ _ h => h) (by rfl) (by intro w' hSw; (try dsimp only at hSw); go_simp; (try (with_reducible rfl))) (by assumption) ?_
        simp only [Act.put, List.setIfInBounds_toArray, List.set_cons_zero, List.set_cons_succ]
        refine held_skip 15 58 rfl rfl (by kernel_rfl) (by kernel_rfl) (by kernel_rfl) (fun _ _ _ h => h) (by rfl) (by assumption) ?_
        simp only [Act.put, List.setIfInBounds_toArray, List.set_cons_zero, List.set_cons_succ]
        refine held_skip 16 59 rfl rfl (by kernel_rfl) (by kernel_rfl) (by kernel_rfl) (fun _ _ _ h => h) (by rfl) (by assumption) ?_
        simp only [Act.put, List.setIfInBounds_toArray, List.set_cons_zero, List.set_cons_succ]
        refine held_skip 17 60 rfl rfl (by kernel_rfl) (by kernel_rfl) (by kernel_rfl) (fun _ _ _ h => h) (by rfl) (by assumption) ?_
        simp only [Act.put, List.setIfInBounds_toArray, List.set_cons_zero, List.set_cons_succ]
        refine held_skip 18 61 rfl rfl (by kernel_rfl) (by kernel_rfl) (by kernel_rfl) (fun _ _ _ h => h) (by rfl) (by assumption) ?_
        simp only [Act.put, List.setIfInBounds_toArray, List.set_cons_zero, List.set_cons_succ]
        refine held_skip 19 62 rfl rfl (by kernel_rfl) (by kernel_rfl) (by kernel_rfl) (fun _ _ _ h => h) (by rfl) (by assumption) ?_
        simp only [Act.put, List.setIfInBounds_toArray, List.set_cons_zero, List.set_cons_succ]
        refine held_skip 20 63 rfl rfl (by kernel_rfl) (by kernel_rfl) (by kernel_rfl) (fun _ _ _ h => h) (by rfl) (by assumption) ?_
        simp only [Act.put, List.setIfInBounds_toArray, List.set_cons_zero, List.set_cons_succ]
        refine held_skip 21 64 rfl rfl (by kernel_rfl) (by kernel_rfl) (by kernel_rfl) (fun _ _ _ h => h) (by rfl) (by assumption) ?_
        simp only [Act.put, List.setIfInBounds_toArray, List.set_cons_zero, List.set_cons_succ]
        refine held_skip 22 65 rfl rfl (by kernel_rfl) (by kernel_rfl) (by kernel_rfl) (fun _ _ _ h => h) (by rfl) (by assumption) ?_
        simp only [Act.put, List.setIfInBounds_toArray, List.set_cons_zero, List.set_cons_succ]
        refine held_take 23 66 (.bool true) rfl rfl (by kernel_rfl) (by kernel_rfl) (by kernel_rfl) (fun _ _ _ h => h) (by rfl) (by intro w' hSw; (try dsimp only at hSw); go_simp; (try (with_reducible rfl))) (by assumption) ?_
        simp only [Act.put, List.setIfInBounds_toArray, List.set_cons_zero, List.set_cons_succ]
        refine wpAnyH_done (by kernel_rfl) ?_ _
        go_wp2_with fail
        go_ret
        exact ⟨ret_bool HN.out.symm, HQ.out.bel⟩
      · have HS := Lib.hid hs
        clear hs
        cases hrt : x.right
        · have HN := Lib.hid (HNo.out fun h => by have := (HUn.out h).2.1; rw [hrt] at this; cases this)
          have HRT := Lib.hid hrt
          clear hrt
          have HQ := Lib.hid HQ.out.drew
          have HX := Lib.hid (HQ.out.at_ HXI.out)
          refine wp_region_held_drew (S := (fun w' => w'.cell? ⟨b, off + i * 11, none⟩ = some (.string x.id) ∧ w'.cell? ⟨b, off + i * 11 + 1, none⟩ = some (.int .i64 x.prio) ∧ w'.cell? ⟨b, off + i * 11 + 2, none⟩ = some (.bool x.crit) ∧ w'.cell? ⟨b, off + i * 11 + 3, none⟩ = some (.int .i64 x.q0) ∧ w'.cell? ⟨b, off + i * 11 + 4, none⟩ = some (.int .i64 x.q1) ∧ w'.cell? ⟨b, off + i * 11 + 5, none⟩ = some (.int .i64 x.q2) ∧ w'.cell? ⟨b, off + i * 11 + 6, none⟩ = some (.int .i64 x.l0) ∧ w'.cell? ⟨b, off + i * 11 + 7, none⟩ = some (.int .i64 x.l1) ∧ w'.cell? ⟨b, off + i * 11 + 8, none⟩ = some (.int .i64 x.l2) ∧ w'.cell? ⟨b, off + i * 11 + 9, none⟩ = some (.string x.image) ∧ w'.cell? ⟨b, off + i * 11 + 10, none⟩ = some (.int .i64 x.size) ∧ w'.cell? ⟨w.heap.size + 1, 0, none⟩ = some (.string p.id))) (by kernel_rfl) (HX.out) (fun hHeld => ?_)
          refine held_take 0 43 (.slice (some ⟨b, off, none⟩) l.length c) rfl rfl (by kernel_rfl) (by kernel_rfl) (by kernel_rfl) (fun _ _ _ h => h) (by rfl) (by intro w' hSw; (try dsimp only at hSw); go_simp; (try (with_reducible rfl))) (by assumption) ?_
          simp only [Act.put, List.setIfInBounds_toArray, List.set_cons_zero, List.set_cons_succ]
          refine held_take 1 44 (.int .i64 i) rfl rfl (by kernel_rfl) (by kernel_rfl) (by kernel_rfl) (fun _ _ _ h => h) (by rfl) (by intro w' hSw; (try dsimp only at hSw); go_simp; (try (with_reducible rfl))) (by assumption) ?_
          simp only [Act.put, List.setIfInBounds_toArray, List.set_cons_zero, List.set_cons_succ]
          refine held_take 2 45 (.pointer (some ⟨b, off + i * 11, none⟩)) rfl rfl (by kernel_rfl) (by kernel_rfl) (by kernel_rfl) (fun _ _ _ h => h) (by rfl) (by intro w' hSw; (try dsimp only at hSw); go_simp; (try (with_reducible rfl))) (by assumption) ?_
          simp only [Act.put, List.setIfInBounds_toArray, List.set_cons_zero, List.set_cons_succ]
          refine held_take 3 46 (.agg #[.string x.id, .int .i64 x.prio, .bool x.crit, .int .i64 x.q0, .int .i64 x.q1, .int .i64 x.q2, .int .i64 x.l0, .int .i64 x.l1, .int .i64 x.l2, .string x.image, .int .i64 x.size]) rfl rfl (by kernel_rfl) (by kernel_rfl) (by kernel_rfl) (fun _ _ _ h => h) (by rfl) (by intro w' hSw; (try dsimp only at hSw); go_simp; (try (with_reducible rfl))) (by assumption) ?_
          simp only [Act.put, List.setIfInBounds_toArray, List.set_cons_zero, List.set_cons_succ]
          refine held_call 4 47 rfl rfl (by kernel_rfl) (by rfl) (fun K hK => ?_)
          go_simp
          go_at_call 25; with_reducible refine (refSmallV HS.out _).mono ?_; rintro e v1 ⟨rfl, hb⟩; have HQ := Lib.hid (HQ.out.below hb); have HX := Lib.hid (HQ.out.at_ HXI.out); clear hb
          refine hK _ _ (HX.out) ?_
          have hHeld := HX.out
          clear hK K
          simp only [Act.put, List.setIfInBounds_toArray, List.set_cons_zero, List.set_cons_succ]
          refine held_take 5 48 (.bool false) rfl rfl (by kernel_rfl) (by kernel_rfl) (by kernel_rfl) (fun _ _ _ h => h) (by rfl) (by intro w' hSw; (try dsimp only at hSw); go_simp; (try (with_reducible rfl))) (by assumption) ?_
          simp only [Act.put, List.setIfInBounds_toArray, List.set_cons_zero, List.set_cons_succ]
          refine held_take 6 49 (.bool false) rfl rfl (by kernel_rfl) (by kernel_rfl) (by kernel_rfl) (fun _ _ _ h => h) (by rfl) (by intro w' hSw; (try dsimp only at hSw); go_simp; (try (with_reducible rfl))) (by assumption) ?_
          simp only [Act.put, List.setIfInBounds_toArray, List.set_cons_zero, List.set_cons_succ]
          refine held_take 7 50 (.slice (some ⟨b, off, none⟩) l.length c) rfl rfl (by kernel_rfl) (by kernel_rfl) (by kernel_rfl) (fun _ _ _ h => h) (by rfl) (by intro w' hSw; (try dsimp only at hSw); go_simp; (try (with_reducible rfl))) (by assumption) ?_
          simp only [Act.put, List.setIfInBounds_toArray, List.set_cons_zero, List.set_cons_succ]
          refine held_take 8 51 (.int .i64 i) rfl rfl (by kernel_rfl) (by kernel_rfl) (by kernel_rfl) (fun _ _ _ h => h) (by rfl) (by intro w' hSw; (try dsimp only at hSw); go_simp; (try (with_reducible rfl))) (by assumption) ?_
          simp only [Act.put, List.setIfInBounds_toArray, List.set_cons_zero, List.set_cons_succ]
          refine held_take 9 52 (.pointer (some ⟨b, off + i * 11, none⟩)) rfl rfl (by kernel_rfl) (by kernel_rfl) (by kernel_rfl) (fun _ _ _ h => h) (by rfl) (by intro w' hSw; (try dsimp only at hSw); go_simp; (try (with_reducible rfl))) (by assumption) ?_
          simp only [Act.put, List.setIfInBounds_toArray, List.set_cons_zero, List.set_cons_succ]
          refine held_take 10 53 (.agg #[.string x.id, .int .i64 x.prio, .bool x.crit, .int .i64 x.q0, .int .i64 x.q1, .int .i64 x.q2, .int .i64 x.l0, .int .i64 x.l1, .int .i64 x.l2, .string x.image, .int .i64 x.size]) rfl rfl (by kernel_rfl) (by kernel_rfl) (by kernel_rfl) (fun _ _ _ h => h) (by rfl) (by intro w' hSw; (try dsimp only at hSw); go_simp; (try (with_reducible rfl))) (by assumption) ?_
          simp only [Act.put, List.setIfInBounds_toArray, List.set_cons_zero, List.set_cons_succ]
          refine held_call 11 54 rfl rfl (by kernel_rfl) (by rfl) (fun K hK => ?_)
          go_simp
          go_at_call 26; with_reducible refine (refRightV HRT.out _ HWX.out).mono ?_; rintro e v1 ⟨rfl, hb⟩; have HQ := Lib.hid (HQ.out.below hb); have HX := Lib.hid (HQ.out.at_ HXI.out); clear hb
          refine hK _ _ (HX.out) ?_
          have hHeld := HX.out
          clear hK K
          simp only [Act.put, List.setIfInBounds_toArray, List.set_cons_zero, List.set_cons_succ]
          refine held_take 12 55 (.bool true) rfl rfl (by kernel_rfl) (by kernel_rfl) (by kernel_rfl) (fun _ _ _ h => h) (by rfl) (by intro w' hSw; (try dsimp only at hSw); go_simp; (try (with_reducible rfl))) (by assumption) ?_
          simp only [Act.put, List.setIfInBounds_toArray, List.set_cons_zero, List.set_cons_succ]
          refine held_take 13 56 (.bool true) rfl rfl (by kernel_rfl) (by kernel_rfl) (by kernel_rfl) (fun _ _ _ h => h) (by rfl) (by intro w' hSw; (try dsimp only at hSw); go_simp; (try (with_reducible rfl))) (by assumption) ?_
          simp only [Act.put, List.setIfInBounds_toArray, List.set_cons_zero, List.set_cons_succ]
          refine held_take 14 57 (.bool true) rfl rfl (by kernel_rfl) (by kernel_rfl) (by kernel_rfl) (fun _ _ _ h => h) (by rfl) (by intro w' hSw; (try dsimp only at hSw); go_simp; (try (with_reducible rfl))) (by assumption) ?_
          simp only [Act.put, List.setIfInBounds_toArray, List.set_cons_zero, List.set_cons_succ]
          refine held_skip 15 58 rfl rfl (by kernel_rfl) (by kernel_rfl) (by kernel_rfl) (fun _ _ _ h => h) (by rfl) (by assumption) ?_
          simp only [Act.put, List.setIfInBounds_toArray, List.set_cons_zero, List.set_cons_succ]
          refine held_skip 16 59 rfl rfl (by kernel_rfl) (by kernel_rfl) (by kernel_rfl) (fun _ _ _ h => h) (by rfl) (by assumption) ?_
          simp only [Act.put, List.setIfInBounds_toArray, List.set_cons_zero, List.set_cons_succ]
          refine held_skip 17 60 rfl rfl (by kernel_rfl) (by kernel_rfl) (by kernel_rfl) (fun _ _ _ h => h) (by rfl) (by assumption) ?_
          simp only [Act.put, List.setIfInBounds_toArray, List.set_cons_zero, List.set_cons_succ]
          refine held_skip 18 61 rfl rfl (by kernel_rfl) (by kernel_rfl) (by kernel_rfl) (fun _ _ _ h => h) (by rfl) (by assumption) ?_
          simp only [Act.put, List.setIfInBounds_toArray, List.set_cons_zero, List.set_cons_succ]
          refine held_skip 19 62 rfl rfl (by kernel_rfl) (by kernel_rfl) (by kernel_rfl) (fun _ _ _ h => h) (by rfl) (by assumption) ?_
          simp only [Act.put, List.setIfInBounds_toArray, List.set_cons_zero, List.set_cons_succ]
          refine held_skip 20 63 rfl rfl (by kernel_rfl) (by kernel_rfl) (by kernel_rfl) (fun _ _ _ h => h) (by rfl) (by assumption) ?_
          simp only [Act.put, List.setIfInBounds_toArray, List.set_cons_zero, List.set_cons_succ]
          refine held_skip 21 64 rfl rfl (by kernel_rfl) (by kernel_rfl) (by kernel_rfl) (fun _ _ _ h => h) (by rfl) (by assumption) ?_
          simp only [Act.put, List.setIfInBounds_toArray, List.set_cons_zero, List.set_cons_succ]
          refine held_skip 22 65 rfl rfl (by kernel_rfl) (by kernel_rfl) (by kernel_rfl) (fun _ _ _ h => h) (by rfl) (by assumption) ?_
          simp only [Act.put, List.setIfInBounds_toArray, List.set_cons_zero, List.set_cons_succ]
          refine held_take 23 66 (.bool true) rfl rfl (by kernel_rfl) (by kernel_rfl) (by kernel_rfl) (fun _ _ _ h => h) (by rfl) (by intro w' hSw; (try dsimp only at hSw); go_simp; (try (with_reducible rfl))) (by assumption) ?_
          simp only [Act.put, List.setIfInBounds_toArray, List.set_cons_zero, List.set_cons_succ]
          refine wpAnyH_done (by kernel_rfl) ?_ _
          go_wp2_with fail
          go_ret
          exact ⟨ret_bool HN.out.symm, HQ.out.bel⟩
        · have HRT := Lib.hid hrt
          clear hrt
          cases he : (x.id.toList == p.id.toList)
          · have HMk2 := Lib.hid (fun h => HYes.out (HMk.out HS.out HRT.out (toList_neV he) h))
            have HQ := Lib.hid HQ.out.drew
            have HX := Lib.hid (HQ.out.at_ HXI.out)
            refine wp_region_held_drew (S := (fun w' => w'.cell? ⟨b, off + i * 11, none⟩ = some (.string x.id) ∧ w'.cell? ⟨b, off + i * 11 + 1, none⟩ = some (.int .i64 x.prio) ∧ w'.cell? ⟨b, off + i * 11 + 2, none⟩ = some (.bool x.crit) ∧ w'.cell? ⟨b, off + i * 11 + 3, none⟩ = some (.int .i64 x.q0) ∧ w'.cell? ⟨b, off + i * 11 + 4, none⟩ = some (.int .i64 x.q1) ∧ w'.cell? ⟨b, off + i * 11 + 5, none⟩ = some (.int .i64 x.q2) ∧ w'.cell? ⟨b, off + i * 11 + 6, none⟩ = some (.int .i64 x.l0) ∧ w'.cell? ⟨b, off + i * 11 + 7, none⟩ = some (.int .i64 x.l1) ∧ w'.cell? ⟨b, off + i * 11 + 8, none⟩ = some (.int .i64 x.l2) ∧ w'.cell? ⟨b, off + i * 11 + 9, none⟩ = some (.string x.image) ∧ w'.cell? ⟨b, off + i * 11 + 10, none⟩ = some (.int .i64 x.size) ∧ w'.cell? ⟨w.heap.size + 1, 0, none⟩ = some (.string p.id))) (by kernel_rfl) (HX.out) (fun hHeld => ?_)
            refine held_take 0 43 (.slice (some ⟨b, off, none⟩) l.length c) rfl rfl (by kernel_rfl) (by kernel_rfl) (by kernel_rfl) (fun _ _ _ h => h) (by rfl) (by intro w' hSw; (try dsimp only at hSw); go_simp; (try (with_reducible rfl))) (by assumption) ?_
            simp only [Act.put, List.setIfInBounds_toArray, List.set_cons_zero, List.set_cons_succ]
            refine held_take 1 44 (.int .i64 i) rfl rfl (by kernel_rfl) (by kernel_rfl) (by kernel_rfl) (fun _ _ _ h => h) (by rfl) (by intro w' hSw; (try dsimp only at hSw); go_simp; (try (with_reducible rfl))) (by assumption) ?_
            simp only [Act.put, List.setIfInBounds_toArray, List.set_cons_zero, List.set_cons_succ]
            refine held_take 2 45 (.pointer (some ⟨b, off + i * 11, none⟩)) rfl rfl (by kernel_rfl) (by kernel_rfl) (by kernel_rfl) (fun _ _ _ h => h) (by rfl) (by intro w' hSw; (try dsimp only at hSw); go_simp; (try (with_reducible rfl))) (by assumption) ?_
            simp only [Act.put, List.setIfInBounds_toArray, List.set_cons_zero, List.set_cons_succ]
            refine held_take 3 46 (.agg #[.string x.id, .int .i64 x.prio, .bool x.crit, .int .i64 x.q0, .int .i64 x.q1, .int .i64 x.q2, .int .i64 x.l0, .int .i64 x.l1, .int .i64 x.l2, .string x.image, .int .i64 x.size]) rfl rfl (by kernel_rfl) (by kernel_rfl) (by kernel_rfl) (fun _ _ _ h => h) (by rfl) (by intro w' hSw; (try dsimp only at hSw); go_simp; (try (with_reducible rfl))) (by assumption) ?_
            simp only [Act.put, List.setIfInBounds_toArray, List.set_cons_zero, List.set_cons_succ]
            refine held_call 4 47 rfl rfl (by kernel_rfl) (by rfl) (fun K hK => ?_)
            go_simp
            go_at_call 25; with_reducible refine (refSmallV HS.out _).mono ?_; rintro e v1 ⟨rfl, hb⟩; have HQ := Lib.hid (HQ.out.below hb); have HX := Lib.hid (HQ.out.at_ HXI.out); clear hb
            refine hK _ _ (HX.out) ?_
            have hHeld := HX.out
            clear hK K
            simp only [Act.put, List.setIfInBounds_toArray, List.set_cons_zero, List.set_cons_succ]
            refine held_take 5 48 (.bool false) rfl rfl (by kernel_rfl) (by kernel_rfl) (by kernel_rfl) (fun _ _ _ h => h) (by rfl) (by intro w' hSw; (try dsimp only at hSw); go_simp; (try (with_reducible rfl))) (by assumption) ?_
            simp only [Act.put, List.setIfInBounds_toArray, List.set_cons_zero, List.set_cons_succ]
            refine held_take 6 49 (.bool false) rfl rfl (by kernel_rfl) (by kernel_rfl) (by kernel_rfl) (fun _ _ _ h => h) (by rfl) (by intro w' hSw; (try dsimp only at hSw); go_simp; (try (with_reducible rfl))) (by assumption) ?_
            simp only [Act.put, List.setIfInBounds_toArray, List.set_cons_zero, List.set_cons_succ]
            refine held_take 7 50 (.slice (some ⟨b, off, none⟩) l.length c) rfl rfl (by kernel_rfl) (by kernel_rfl) (by kernel_rfl) (fun _ _ _ h => h) (by rfl) (by intro w' hSw; (try dsimp only at hSw); go_simp; (try (with_reducible rfl))) (by assumption) ?_
            simp only [Act.put, List.setIfInBounds_toArray, List.set_cons_zero, List.set_cons_succ]
            refine held_take 8 51 (.int .i64 i) rfl rfl (by kernel_rfl) (by kernel_rfl) (by kernel_rfl) (fun _ _ _ h => h) (by rfl) (by intro w' hSw; (try dsimp only at hSw); go_simp; (try (with_reducible rfl))) (by assumption) ?_
            simp only [Act.put, List.setIfInBounds_toArray, List.set_cons_zero, List.set_cons_succ]
            refine held_take 9 52 (.pointer (some ⟨b, off + i * 11, none⟩)) rfl rfl (by kernel_rfl) (by kernel_rfl) (by kernel_rfl) (fun _ _ _ h => h) (by rfl) (by intro w' hSw; (try dsimp only at hSw); go_simp; (try (with_reducible rfl))) (by assumption) ?_
            simp only [Act.put, List.setIfInBounds_toArray, List.set_cons_zero, List.set_cons_succ]
            refine held_take 10 53 (.agg #[.string x.id, .int .i64 x.prio, .bool x.crit, .int .i64 x.q0, .int .i64 x.q1, .int .i64 x.q2, .int .i64 x.l0, .int .i64 x.l1, .int .i64 x.l2, .string x.image, .int .i64 x.size]) rfl rfl (by kernel_rfl) (by kernel_rfl) (by kernel_rfl) (fun _ _ _ h => h) (by rfl) (by intro w' hSw; (try dsimp only at hSw); go_simp; (try (with_reducible rfl))) (by assumption) ?_
            simp only [Act.put, List.setIfInBounds_toArray, List.set_cons_zero, List.set_cons_succ]
            refine held_call 11 54 rfl rfl (by kernel_rfl) (by rfl) (fun K hK => ?_)
            go_simp
            go_at_call 26; with_reducible refine (refRightV HRT.out _ HWX.out).mono ?_; rintro e v1 ⟨rfl, hb⟩; have HQ := Lib.hid (HQ.out.below hb); have HX := Lib.hid (HQ.out.at_ HXI.out); clear hb
            refine hK _ _ (HX.out) ?_
            have hHeld := HX.out
            clear hK K
            simp only [Act.put, List.setIfInBounds_toArray, List.set_cons_zero, List.set_cons_succ]
            refine held_take 12 55 (.bool false) rfl rfl (by kernel_rfl) (by kernel_rfl) (by kernel_rfl) (fun _ _ _ h => h) (by rfl) (by intro w' hSw; (try dsimp only at hSw); go_simp; (try (with_reducible rfl))) (by assumption) ?_
            simp only [Act.put, List.setIfInBounds_toArray, List.set_cons_zero, List.set_cons_succ]
            refine held_take 13 56 (.bool false) rfl rfl (by kernel_rfl) (by kernel_rfl) (by kernel_rfl) (fun _ _ _ h => h) (by rfl) (by intro w' hSw; (try dsimp only at hSw); go_simp; (try (with_reducible rfl))) (by assumption) ?_
            simp only [Act.put, List.setIfInBounds_toArray, List.set_cons_zero, List.set_cons_succ]
            refine held_take 14 57 (.bool false) rfl rfl (by kernel_rfl) (by kernel_rfl) (by kernel_rfl) (fun _ _ _ h => h) (by rfl) (by intro w' hSw; (try dsimp only at hSw); go_simp; (try (with_reducible rfl))) (by assumption) ?_
            simp only [Act.put, List.setIfInBounds_toArray, List.set_cons_zero, List.set_cons_succ]
            refine held_take 15 58 (.slice (some ⟨b, off, none⟩) l.length c) rfl rfl (by kernel_rfl) (by kernel_rfl) (by kernel_rfl) (fun _ _ _ h => h) (by rfl) (by intro w' hSw; (try dsimp only at hSw); go_simp; (try (with_reducible rfl))) (by assumption) ?_
            simp only [Act.put, List.setIfInBounds_toArray, List.set_cons_zero, List.set_cons_succ]
            refine held_take 16 59 (.int .i64 i) rfl rfl (by kernel_rfl) (by kernel_rfl) (by kernel_rfl) (fun _ _ _ h => h) (by rfl) (by intro w' hSw; (try dsimp only at hSw); go_simp; (try (with_reducible rfl))) (by assumption) ?_
            simp only [Act.put, List.setIfInBounds_toArray, List.set_cons_zero, List.set_cons_succ]
            refine held_take 17 60 (.pointer (some ⟨b, off + i * 11, none⟩)) rfl rfl (by kernel_rfl) (by kernel_rfl) (by kernel_rfl) (fun _ _ _ h => h) (by rfl) (by intro w' hSw; (try dsimp only at hSw); go_simp; (try (with_reducible rfl))) (by assumption) ?_
            simp only [Act.put, List.setIfInBounds_toArray, List.set_cons_zero, List.set_cons_succ]
            refine held_take 18 61 (.pointer (some ⟨b, off + i * 11, none⟩)) rfl rfl (by kernel_rfl) (by kernel_rfl) (by kernel_rfl) (fun _ _ _ h => h) (by rfl) (by intro w' hSw; (try dsimp only at hSw); go_simp; (try (with_reducible rfl))) (by assumption) ?_
            simp only [Act.put, List.setIfInBounds_toArray, List.set_cons_zero, List.set_cons_succ]
            refine held_take 19 62 (.string x.id) rfl rfl (by kernel_rfl) (by kernel_rfl) (by kernel_rfl) (fun _ _ _ h => h) (by rfl) (by intro w' hSw; (try dsimp only at hSw); go_simp; (try (with_reducible rfl))) (by assumption) ?_
            simp only [Act.put, List.setIfInBounds_toArray, List.set_cons_zero, List.set_cons_succ]
            refine held_take 20 63 (.pointer (some ⟨w.heap.size + 1, 0, none⟩)) rfl rfl (by kernel_rfl) (by kernel_rfl) (by kernel_rfl) (fun _ _ _ h => h) (by rfl) (by intro w' hSw; (try dsimp only at hSw); go_simp; (try (with_reducible rfl))) (by assumption) ?_
            simp only [Act.put, List.setIfInBounds_toArray, List.set_cons_zero, List.set_cons_succ]
            refine held_take 21 64 (.string p.id) rfl rfl (by kernel_rfl) (by kernel_rfl) (by kernel_rfl) (fun _ _ _ h => h) (by rfl) (by intro w' hSw; (try dsimp only at hSw); go_simp; (try (with_reducible rfl))) (by assumption) ?_
            simp only [Act.put, List.setIfInBounds_toArray, List.set_cons_zero, List.set_cons_succ]
            refine held_take 22 65 (.bool false) rfl rfl (by kernel_rfl) (by kernel_rfl) (by kernel_rfl) (fun _ _ _ h => h) (by rfl) (by intro w' hSw; (try dsimp only at hSw); go_simp; (first | done | with_reducible rfl | simpa using he)) (by assumption) ?_
            simp only [Act.put, List.setIfInBounds_toArray, List.set_cons_zero, List.set_cons_succ]
            refine held_take 23 66 (.bool false) rfl rfl (by kernel_rfl) (by kernel_rfl) (by kernel_rfl) (fun _ _ _ h => h) (by rfl) (by intro w' hSw; (try dsimp only at hSw); go_simp; (try (with_reducible rfl))) (by assumption) ?_
            simp only [Act.put, List.setIfInBounds_toArray, List.set_cons_zero, List.set_cons_succ]
            refine wpAnyH_done (by kernel_rfl) ?_ _
            go_wp2_with fail
            go_loopw [8] (fun kk wq => ∃ j : Nat, j ≤ i ∧ kk = .int .i64 j ∧ NotInV l x.id j ∧ FQ room p (some ⟨b, off, none⟩) l w wq) (fun kk _ => i - (intOf kk).toNat)
            case atStart => exact ⟨0, by omega, rfl, fun _ _ h => by omega, HQ.out⟩
            case round =>
              clear HQ HX hHeld he HS HRT
              obtain ⟨j, hj, rfl, hni, hq⟩ := hrel
              have HNI := Lib.hid hni
              have HQ := Lib.hid hq
              clear hni hq
              by_cases hji : j < i
              · have hjl : j < l.length := by omega
                have dj : decide ((j : Int) < (i : Int)) = true := decide_eq_true (by omega)
                have djn : decide (j < i) = true := decide_eq_true hji
                have dj2 : (j : Int) < (l.length : Int) := by omega
                have cj := (HQ.out.at_ (List.getElem?_eq_getElem hjl)).1
                have ci := (HQ.out.at_ HXI.out).1
                have HSn := Lib.hid (fun (h : (l[j].id.toList == x.id.toList) = false) => HNI.out.snoc hjl h)
                have HEq := Lib.hid (fun (h : (l[j].id.toList == x.id.toList) = true) => HNo.out (HI0.out j hjl h hji))
                generalize l[j] = y at *
                cases he : (y.id.toList == x.id.toList)
                · have HN := Lib.hid (HSn.out he)
                  go_wp2_with fail
                  go_quiet (fail)
                  go_wp2_with fail
                  go_roundw
                  case rel => exact ⟨j + 1, by omega, by go_num, HN.out, HQ.out.below ⟨rfl, rfl, rfl, Nat.le_refl _, fun _ _ => rfl⟩⟩
                  case measure => simp [intOf]; omega
                · have HN := Lib.hid (HEq.out he)
                  go_wp2_with fail
                  go_quiet (fail)
                  go_wp2_with fail
                  go_ret
                  exact ⟨ret_bool HN.out.symm, HQ.out.bel.trans ⟨rfl, rfl, rfl, Nat.le_refl _, fun _ _ => rfl⟩⟩
              · obtain rfl : j = i := by omega
                have HN := Lib.hid (HMk2.out HNI.out)
                have dj : decide ((j : Int) < (j : Int)) = false := by simp
                go_wp2_with fail
                go_roundw
                case rel => exact ⟨j + 1, by omega, by go_num, HN.out, HQ.out⟩
                case measure => simp [intOf]; omega
          · have HN := Lib.hid (HNo.out fun h => (HUn.out h).2.2 (toList_injV he))
            have HQ := Lib.hid HQ.out.drew
            have HX := Lib.hid (HQ.out.at_ HXI.out)
            refine wp_region_held_drew (S := (fun w' => w'.cell? ⟨b, off + i * 11, none⟩ = some (.string x.id) ∧ w'.cell? ⟨b, off + i * 11 + 1, none⟩ = some (.int .i64 x.prio) ∧ w'.cell? ⟨b, off + i * 11 + 2, none⟩ = some (.bool x.crit) ∧ w'.cell? ⟨b, off + i * 11 + 3, none⟩ = some (.int .i64 x.q0) ∧ w'.cell? ⟨b, off + i * 11 + 4, none⟩ = some (.int .i64 x.q1) ∧ w'.cell? ⟨b, off + i * 11 + 5, none⟩ = some (.int .i64 x.q2) ∧ w'.cell? ⟨b, off + i * 11 + 6, none⟩ = some (.int .i64 x.l0) ∧ w'.cell? ⟨b, off + i * 11 + 7, none⟩ = some (.int .i64 x.l1) ∧ w'.cell? ⟨b, off + i * 11 + 8, none⟩ = some (.int .i64 x.l2) ∧ w'.cell? ⟨b, off + i * 11 + 9, none⟩ = some (.string x.image) ∧ w'.cell? ⟨b, off + i * 11 + 10, none⟩ = some (.int .i64 x.size) ∧ w'.cell? ⟨w.heap.size + 1, 0, none⟩ = some (.string p.id))) (by kernel_rfl) (HX.out) (fun hHeld => ?_)
            refine held_take 0 43 (.slice (some ⟨b, off, none⟩) l.length c) rfl rfl (by kernel_rfl) (by kernel_rfl) (by kernel_rfl) (fun _ _ _ h => h) (by rfl) (by intro w' hSw; (try dsimp only at hSw); go_simp; (try (with_reducible rfl))) (by assumption) ?_
            simp only [Act.put, List.setIfInBounds_toArray, List.set_cons_zero, List.set_cons_succ]
            refine held_take 1 44 (.int .i64 i) rfl rfl (by kernel_rfl) (by kernel_rfl) (by kernel_rfl) (fun _ _ _ h => h) (by rfl) (by intro w' hSw; (try dsimp only at hSw); go_simp; (try (with_reducible rfl))) (by assumption) ?_
            simp only [Act.put, List.setIfInBounds_toArray, List.set_cons_zero, List.set_cons_succ]
            refine held_take 2 45 (.pointer (some ⟨b, off + i * 11, none⟩)) rfl rfl (by kernel_rfl) (by kernel_rfl) (by kernel_rfl) (fun _ _ _ h => h) (by rfl) (by intro w' hSw; (try dsimp only at hSw); go_simp; (try (with_reducible rfl))) (by assumption) ?_
            simp only [Act.put, List.setIfInBounds_toArray, List.set_cons_zero, List.set_cons_succ]
            refine held_take 3 46 (.agg #[.string x.id, .int .i64 x.prio, .bool x.crit, .int .i64 x.q0, .int .i64 x.q1, .int .i64 x.q2, .int .i64 x.l0, .int .i64 x.l1, .int .i64 x.l2, .string x.image, .int .i64 x.size]) rfl rfl (by kernel_rfl) (by kernel_rfl) (by kernel_rfl) (fun _ _ _ h => h) (by rfl) (by intro w' hSw; (try dsimp only at hSw); go_simp; (try (with_reducible rfl))) (by assumption) ?_
            simp only [Act.put, List.setIfInBounds_toArray, List.set_cons_zero, List.set_cons_succ]
            refine held_call 4 47 rfl rfl (by kernel_rfl) (by rfl) (fun K hK => ?_)
            go_simp
            go_at_call 25; with_reducible refine (refSmallV HS.out _).mono ?_; rintro e v1 ⟨rfl, hb⟩; have HQ := Lib.hid (HQ.out.below hb); have HX := Lib.hid (HQ.out.at_ HXI.out); clear hb
            refine hK _ _ (HX.out) ?_
            have hHeld := HX.out
            clear hK K
            simp only [Act.put, List.setIfInBounds_toArray, List.set_cons_zero, List.set_cons_succ]
            refine held_take 5 48 (.bool false) rfl rfl (by kernel_rfl) (by kernel_rfl) (by kernel_rfl) (fun _ _ _ h => h) (by rfl) (by intro w' hSw; (try dsimp only at hSw); go_simp; (try (with_reducible rfl))) (by assumption) ?_
            simp only [Act.put, List.setIfInBounds_toArray, List.set_cons_zero, List.set_cons_succ]
            refine held_take 6 49 (.bool false) rfl rfl (by kernel_rfl) (by kernel_rfl) (by kernel_rfl) (fun _ _ _ h => h) (by rfl) (by intro w' hSw; (try dsimp only at hSw); go_simp; (try (with_reducible rfl))) (by assumption) ?_
            simp only [Act.put, List.setIfInBounds_toArray, List.set_cons_zero, List.set_cons_succ]
            refine held_take 7 50 (.slice (some ⟨b, off, none⟩) l.length c) rfl rfl (by kernel_rfl) (by kernel_rfl) (by kernel_rfl) (fun _ _ _ h => h) (by rfl) (by intro w' hSw; (try dsimp only at hSw); go_simp; (try (with_reducible rfl))) (by assumption) ?_
            simp only [Act.put, List.setIfInBounds_toArray, List.set_cons_zero, List.set_cons_succ]
            refine held_take 8 51 (.int .i64 i) rfl rfl (by kernel_rfl) (by kernel_rfl) (by kernel_rfl) (fun _ _ _ h => h) (by rfl) (by intro w' hSw; (try dsimp only at hSw); go_simp; (try (with_reducible rfl))) (by assumption) ?_
            simp only [Act.put, List.setIfInBounds_toArray, List.set_cons_zero, List.set_cons_succ]
            refine held_take 9 52 (.pointer (some ⟨b, off + i * 11, none⟩)) rfl rfl (by kernel_rfl) (by kernel_rfl) (by kernel_rfl) (fun _ _ _ h => h) (by rfl) (by intro w' hSw; (try dsimp only at hSw); go_simp; (try (with_reducible rfl))) (by assumption) ?_
            simp only [Act.put, List.setIfInBounds_toArray, List.set_cons_zero, List.set_cons_succ]
            refine held_take 10 53 (.agg #[.string x.id, .int .i64 x.prio, .bool x.crit, .int .i64 x.q0, .int .i64 x.q1, .int .i64 x.q2, .int .i64 x.l0, .int .i64 x.l1, .int .i64 x.l2, .string x.image, .int .i64 x.size]) rfl rfl (by kernel_rfl) (by kernel_rfl) (by kernel_rfl) (fun _ _ _ h => h) (by rfl) (by intro w' hSw; (try dsimp only at hSw); go_simp; (try (with_reducible rfl))) (by assumption) ?_
            simp only [Act.put, List.setIfInBounds_toArray, List.set_cons_zero, List.set_cons_succ]
            refine held_call 11 54 rfl rfl (by kernel_rfl) (by rfl) (fun K hK => ?_)
            go_simp
            go_at_call 26; with_reducible refine (refRightV HRT.out _ HWX.out).mono ?_; rintro e v1 ⟨rfl, hb⟩; have HQ := Lib.hid (HQ.out.below hb); have HX := Lib.hid (HQ.out.at_ HXI.out); clear hb
            refine hK _ _ (HX.out) ?_
            have hHeld := HX.out
            clear hK K
            simp only [Act.put, List.setIfInBounds_toArray, List.set_cons_zero, List.set_cons_succ]
            refine held_take 12 55 (.bool false) rfl rfl (by kernel_rfl) (by kernel_rfl) (by kernel_rfl) (fun _ _ _ h => h) (by rfl) (by intro w' hSw; (try dsimp only at hSw); go_simp; (try (with_reducible rfl))) (by assumption) ?_
            simp only [Act.put, List.setIfInBounds_toArray, List.set_cons_zero, List.set_cons_succ]
            refine held_take 13 56 (.bool false) rfl rfl (by kernel_rfl) (by kernel_rfl) (by kernel_rfl) (fun _ _ _ h => h) (by rfl) (by intro w' hSw; (try dsimp only at hSw); go_simp; (try (with_reducible rfl))) (by assumption) ?_
            simp only [Act.put, List.setIfInBounds_toArray, List.set_cons_zero, List.set_cons_succ]
            refine held_take 14 57 (.bool false) rfl rfl (by kernel_rfl) (by kernel_rfl) (by kernel_rfl) (fun _ _ _ h => h) (by rfl) (by intro w' hSw; (try dsimp only at hSw); go_simp; (try (with_reducible rfl))) (by assumption) ?_
            simp only [Act.put, List.setIfInBounds_toArray, List.set_cons_zero, List.set_cons_succ]
            refine held_take 15 58 (.slice (some ⟨b, off, none⟩) l.length c) rfl rfl (by kernel_rfl) (by kernel_rfl) (by kernel_rfl) (fun _ _ _ h => h) (by rfl) (by intro w' hSw; (try dsimp only at hSw); go_simp; (try (with_reducible rfl))) (by assumption) ?_
            simp only [Act.put, List.setIfInBounds_toArray, List.set_cons_zero, List.set_cons_succ]
            refine held_take 16 59 (.int .i64 i) rfl rfl (by kernel_rfl) (by kernel_rfl) (by kernel_rfl) (fun _ _ _ h => h) (by rfl) (by intro w' hSw; (try dsimp only at hSw); go_simp; (try (with_reducible rfl))) (by assumption) ?_
            simp only [Act.put, List.setIfInBounds_toArray, List.set_cons_zero, List.set_cons_succ]
            refine held_take 17 60 (.pointer (some ⟨b, off + i * 11, none⟩)) rfl rfl (by kernel_rfl) (by kernel_rfl) (by kernel_rfl) (fun _ _ _ h => h) (by rfl) (by intro w' hSw; (try dsimp only at hSw); go_simp; (try (with_reducible rfl))) (by assumption) ?_
            simp only [Act.put, List.setIfInBounds_toArray, List.set_cons_zero, List.set_cons_succ]
            refine held_take 18 61 (.pointer (some ⟨b, off + i * 11, none⟩)) rfl rfl (by kernel_rfl) (by kernel_rfl) (by kernel_rfl) (fun _ _ _ h => h) (by rfl) (by intro w' hSw; (try dsimp only at hSw); go_simp; (try (with_reducible rfl))) (by assumption) ?_
            simp only [Act.put, List.setIfInBounds_toArray, List.set_cons_zero, List.set_cons_succ]
            refine held_take 19 62 (.string x.id) rfl rfl (by kernel_rfl) (by kernel_rfl) (by kernel_rfl) (fun _ _ _ h => h) (by rfl) (by intro w' hSw; (try dsimp only at hSw); go_simp; (try (with_reducible rfl))) (by assumption) ?_
            simp only [Act.put, List.setIfInBounds_toArray, List.set_cons_zero, List.set_cons_succ]
            refine held_take 20 63 (.pointer (some ⟨w.heap.size + 1, 0, none⟩)) rfl rfl (by kernel_rfl) (by kernel_rfl) (by kernel_rfl) (fun _ _ _ h => h) (by rfl) (by intro w' hSw; (try dsimp only at hSw); go_simp; (try (with_reducible rfl))) (by assumption) ?_
            simp only [Act.put, List.setIfInBounds_toArray, List.set_cons_zero, List.set_cons_succ]
            refine held_take 21 64 (.string p.id) rfl rfl (by kernel_rfl) (by kernel_rfl) (by kernel_rfl) (fun _ _ _ h => h) (by rfl) (by intro w' hSw; (try dsimp only at hSw); go_simp; (try (with_reducible rfl))) (by assumption) ?_
            simp only [Act.put, List.setIfInBounds_toArray, List.set_cons_zero, List.set_cons_succ]
            refine held_take 22 65 (.bool true) rfl rfl (by kernel_rfl) (by kernel_rfl) (by kernel_rfl) (fun _ _ _ h => h) (by rfl) (by intro w' hSw; (try dsimp only at hSw); go_simp; (first | done | with_reducible rfl | simpa using he)) (by assumption) ?_
            simp only [Act.put, List.setIfInBounds_toArray, List.set_cons_zero, List.set_cons_succ]
            refine held_take 23 66 (.bool true) rfl rfl (by kernel_rfl) (by kernel_rfl) (by kernel_rfl) (fun _ _ _ h => h) (by rfl) (by intro w' hSw; (try dsimp only at hSw); go_simp; (try (with_reducible rfl))) (by assumption) ?_
            simp only [Act.put, List.setIfInBounds_toArray, List.set_cons_zero, List.set_cons_succ]
            refine wpAnyH_done (by kernel_rfl) ?_ _
            go_wp2_with fail
            go_ret
            exact ⟨ret_bool HN.out.symm, HQ.out.bel⟩
    · obtain rfl : i = l.length := by omega
      have dk : decide ((l.length : Int) < (l.length : Int)) = false := by simp
      have HN : Hid (v = true) := HVA.out HOK.out
      go_wp2_with fail
      go_ret
      exact ⟨ret_bool HN.out.symm, HQ.out.bel⟩
end Go.Proofs.Ytabbkembpghfdaa
