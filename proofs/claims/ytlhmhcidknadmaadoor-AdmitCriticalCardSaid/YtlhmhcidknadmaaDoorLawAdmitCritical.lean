/- bilgelaw23.AdmitCritical: a critical pod is admitted just if it fits beside those that may not go for it; those that go are less important, and not critical; with any one of them back it wouldn't fit. -/
import Derived.Test.YtlhmhcidknadmaaDoorASame
import Derived.Test.YtlhmhcidknadmaaDoorVFixed
namespace Go.Proofs.YtlhmhcidknadmaaDoor
open Go.RowKit

theorem acCells {f : Cf} {a b c : Bool} {p : Pd} {w W : World} (h : LA f a b c p w W) : W.cell? ⟨w.heap.size, 3, none⟩ = some (.int .i64 f.room.a) ∧ W.cell? ⟨w.heap.size, 4, none⟩ = some (.int .i64 f.room.b) ∧ W.cell? ⟨w.heap.size, 5, none⟩ = some (.int .i64 f.room.c) ∧ W.cell? ⟨w.heap.size + 1 + 1, 0, none⟩ = some (.string p.id) ∧ W.cell? ⟨w.heap.size + 1 + 1, 1, none⟩ = some (.int .i64 p.prio) ∧ W.cell? ⟨w.heap.size + 1 + 1, 2, none⟩ = some (.bool p.crit) ∧ W.cell? ⟨w.heap.size + 1 + 1, 3, none⟩ = some (.int .i64 p.q0) ∧ W.cell? ⟨w.heap.size + 1 + 1, 4, none⟩ = some (.int .i64 p.q1) ∧ W.cell? ⟨w.heap.size + 1 + 1, 5, none⟩ = some (.int .i64 p.q2) ∧ W.cell? ⟨w.heap.size + 1 + 1, 6, none⟩ = some (.int .i64 p.l0) ∧ W.cell? ⟨w.heap.size + 1 + 1, 7, none⟩ = some (.int .i64 p.l1) ∧ W.cell? ⟨w.heap.size + 1 + 1, 8, none⟩ = some (.int .i64 p.l2) ∧ W.cell? ⟨w.heap.size + 1 + 1, 9, none⟩ = some (.string p.image) ∧ W.cell? ⟨w.heap.size + 1 + 1, 10, none⟩ = some (.int .i64 p.size) := by
  obtain ⟨x0, x1, x2, x3, x4, x5, x6, x7, x8, x9, x10⟩ := h.pb.pd
  exact ⟨h.cf.cell 3, h.cf.cell 4, h.cf.cell 5, x0, x1, x2, x3, x4, x5, x6, x7, x8, x9, x10⟩
structure MinT (room : S3) (p : Pd) (l : List Pd) (O : List ByteArray) (ST : List Pd) : Prop where
  d : ∀ i (_ : i < O.length), ∃ k, ∃ hk : k < l.length, l[k].id = O[i]
  e : ∀ k (hk : k < l.length), l[k].id ∈ O → p.crit = true ∧ l[k].crit = false ∧ l[k].prio < p.prio ∧ fitsB room (ST ++ [l[k]]) = false
theorem acCells3 {f : Cf} {a b c : Bool} {p y : Pd} {w W : World} {L : List Pd} {g off k : Nat} (h : LA f a b c p w W) (hr : Rds W encP (some ⟨g, off, none⟩) L) (hk : L[k]? = some y) : W.cell? ⟨w.heap.size, 3, none⟩ = some (.int .i64 f.room.a) ∧ W.cell? ⟨w.heap.size, 4, none⟩ = some (.int .i64 f.room.b) ∧ W.cell? ⟨w.heap.size, 5, none⟩ = some (.int .i64 f.room.c) ∧ W.cell? ⟨w.heap.size + 1 + 1, 0, none⟩ = some (.string p.id) ∧ W.cell? ⟨w.heap.size + 1 + 1, 1, none⟩ = some (.int .i64 p.prio) ∧ W.cell? ⟨w.heap.size + 1 + 1, 2, none⟩ = some (.bool p.crit) ∧ W.cell? ⟨w.heap.size + 1 + 1, 3, none⟩ = some (.int .i64 p.q0) ∧ W.cell? ⟨w.heap.size + 1 + 1, 4, none⟩ = some (.int .i64 p.q1) ∧ W.cell? ⟨w.heap.size + 1 + 1, 5, none⟩ = some (.int .i64 p.q2) ∧ W.cell? ⟨w.heap.size + 1 + 1, 6, none⟩ = some (.int .i64 p.l0) ∧ W.cell? ⟨w.heap.size + 1 + 1, 7, none⟩ = some (.int .i64 p.l1) ∧ W.cell? ⟨w.heap.size + 1 + 1, 8, none⟩ = some (.int .i64 p.l2) ∧ W.cell? ⟨w.heap.size + 1 + 1, 9, none⟩ = some (.string p.image) ∧ W.cell? ⟨w.heap.size + 1 + 1, 10, none⟩ = some (.int .i64 p.size) ∧ W.cell? ⟨g, off + k * 11, none⟩ = some (.string y.id) ∧ W.cell? ⟨g, off + k * 11 + 1, none⟩ = some (.int .i64 y.prio) ∧ W.cell? ⟨g, off + k * 11 + 2, none⟩ = some (.bool y.crit) ∧ W.cell? ⟨g, off + k * 11 + 3, none⟩ = some (.int .i64 y.q0) ∧ W.cell? ⟨g, off + k * 11 + 4, none⟩ = some (.int .i64 y.q1) ∧ W.cell? ⟨g, off + k * 11 + 5, none⟩ = some (.int .i64 y.q2) ∧ W.cell? ⟨g, off + k * 11 + 6, none⟩ = some (.int .i64 y.l0) ∧ W.cell? ⟨g, off + k * 11 + 7, none⟩ = some (.int .i64 y.l1) ∧ W.cell? ⟨g, off + k * 11 + 8, none⟩ = some (.int .i64 y.l2) ∧ W.cell? ⟨g, off + k * 11 + 9, none⟩ = some (.string y.image) ∧ W.cell? ⟨g, off + k * 11 + 10, none⟩ = some (.int .i64 y.size) := by
  obtain ⟨x0, x1, x2, x3, x4, x5, x6, x7, x8, x9, x10⟩ := h.pb.pd
  obtain ⟨y0, y1, y2, y3, y4, y5, y6, y7, y8, y9, y10⟩ := hr.pdAt (Below.refl _ _) hk
  exact ⟨h.cf.cell 3, h.cf.cell 4, h.cf.cell 5, x0, x1, x2, x3, x4, x5, x6, x7, x8, x9, x10, y0, y1, y2, y3, y4, y5, y6, y7, y8, y9, y10⟩
theorem acCells2 {f : Cf} {a b c : Bool} {p : Pd} {w W : World} {g : Nat} {k s : Int} {Ax : Option Addr} {n cx : Nat} (h : LA f a b c p w W) (hv : Blk W g 36 #[.int .i64 k, .int .i64 s, .slice Ax n cx]) : W.cell? ⟨w.heap.size + 1 + 1, 0, none⟩ = some (.string p.id) ∧ W.cell? ⟨w.heap.size + 1 + 1, 1, none⟩ = some (.int .i64 p.prio) ∧ W.cell? ⟨w.heap.size + 1 + 1, 2, none⟩ = some (.bool p.crit) ∧ W.cell? ⟨w.heap.size + 1 + 1, 3, none⟩ = some (.int .i64 p.q0) ∧ W.cell? ⟨w.heap.size + 1 + 1, 4, none⟩ = some (.int .i64 p.q1) ∧ W.cell? ⟨w.heap.size + 1 + 1, 5, none⟩ = some (.int .i64 p.q2) ∧ W.cell? ⟨w.heap.size + 1 + 1, 6, none⟩ = some (.int .i64 p.l0) ∧ W.cell? ⟨w.heap.size + 1 + 1, 7, none⟩ = some (.int .i64 p.l1) ∧ W.cell? ⟨w.heap.size + 1 + 1, 8, none⟩ = some (.int .i64 p.l2) ∧ W.cell? ⟨w.heap.size + 1 + 1, 9, none⟩ = some (.string p.image) ∧ W.cell? ⟨w.heap.size + 1 + 1, 10, none⟩ = some (.int .i64 p.size) ∧ W.cell? ⟨g, 2, none⟩ = some (.slice Ax n cx) := by
  obtain ⟨x0, x1, x2, x3, x4, x5, x6, x7, x8, x9, x10⟩ := h.pb.pd
  exact ⟨x0, x1, x2, x3, x4, x5, x6, x7, x8, x9, x10, hv.cell 2⟩
theorem barD_crit {p : Pd} (a b c : Bool) (h : p.crit = true) : (barD a b c p).2 = false := by unfold barD; rw [if_pos h]
set_option maxRecDepth 100000 in
set_option maxHeartbeats 16000000 in
theorem admitCritical_any (f : Cf) (l : List En) (a b c : Bool) (p : Pd) (cr : Bool) (hc : p.crit = true) (Al : Option Addr) (cl : Nat) (w : World) (hr : Rds w encN Al l) (hw : ∀ x ∈ l, x.pod.Wf ∧ I64 x.phase) (hm : l.length ≤ 9223372036854775807) (hp : p.Wf) (hrt : Rds w encT f.A f.ts) (hnt : f.ts.length ≤ 9223372036854775807) (hra : I64 f.room.a) (hrb : I64 f.room.b) (hrc : I64 f.room.c) :
    Calls Tryd.prog 4 #[.agg f.cells, .slice Al l.length cl, .agg #[.bool a, .bool b, .bool c], .agg #[.string p.id, .int .i64 p.prio, .bool cr, .int .i64 p.q0, .int .i64 p.q1, .int .i64 p.q2, .int .i64 p.l0, .int .i64 p.l1, .int .i64 p.l2, .string p.image, .int .i64 p.size]] w fun e w' => e = .returned (.bool true) ∧ Below w.heap.size w w' := by
  have mixed : Tryd.prog.follows Departure.mixedOrders = true := by kernel_rfl
  have hq0 := LA.new f a b c p w
  rw [hc] at hq0
  have HQ := Lib.hid hq0
  have HC := Lib.hid hc
  clear hq0 hc
  have HR := Lib.hid hr
  have HW := Lib.hid hw
  have HPW := Lib.hid hp
  have HRT := Lib.hid hrt
  clear hr hw hp hrt
  go_enter Tryd.func4, Tryd.ntmps4
  go_wp2_with fail
  refine (awake23_any _).mono ?_; rintro e w1 ⟨rfl, hb⟩
  have HQ := Lib.hid (HQ.out.below hb)
  clear hb
  have ccf := HQ.out.cf.cell
  go_wp2_with fail
  refine (right07_any f _ (HRT.out.below HQ.out.bel) hnt).mono ?_; rintro e w2 ⟨v1, rfl, hv1, hb⟩
  have HQ := Lib.hid (HQ.out.below hb)
  have HV1 := Lib.hid hv1
  clear hb hv1 ccf
  cases v1
  · go_wp2_with fail
    refine (awake23_any _).mono ?_; rintro e w9 ⟨rfl, hb⟩
    have HQ := Lib.hid (HQ.out.below hb)
    clear hb
    go_wp2_with fail
    go_ret
    exact ⟨rfl, HQ.out.bel⟩
  have HR0 : Hid (Room0 f) := HV1.out rfl
  clear HV1
  by_cases hf : FitE l
  rotate_left
  · go_wp2_with fail
    refine (fit20V_any (v := false) (by simp [hf]) Al cl _ (HR.out.below HQ.out.bel) HW.out hm).mono ?_; rintro e w3 ⟨rfl, hb⟩
    have HQ := Lib.hid (HQ.out.below hb)
    clear hb hf
    go_wp2_with fail
    refine (awake23_any _).mono ?_; rintro e w9 ⟨rfl, hb⟩
    have HQ := Lib.hid (HQ.out.below hb)
    clear hb
    go_wp2_with fail
    go_ret
    exact ⟨rfl, HQ.out.bel⟩
  have HF := Lib.hid hf
  have hl := hf.len
  go_wp2_with fail
  refine (fit20V_any (v := true) (by simp [hf]) Al cl _ (HR.out.below HQ.out.bel) HW.out hm).mono ?_; rintro e w3 ⟨rfl, hb⟩
  have HQ := Lib.hid (HQ.out.below hb)
  clear hb hf
  have cp := HQ.out.pb.cell
  go_wp2_with fail
  obtain ⟨v3, hv3⟩ : ∃ v, p.small = v := ⟨_, rfl⟩
  have HSM := Lib.hid hv3
  clear hv3
  refine (smallV_any HSM.out _).mono ?_; rintro e w4 ⟨rfl, hb⟩
  have HQ := Lib.hid (HQ.out.below hb)
  have HRL := Lib.hid (HR.out.below HQ.out.bel)
  clear hb cp
  cases v3
  · go_wp2_with fail
    refine (awake23_any _).mono ?_; rintro e w9 ⟨rfl, hb⟩
    have HQ := Lib.hid (HQ.out.below hb)
    clear hb
    go_wp2_with fail
    go_ret
    exact ⟨rfl, HQ.out.bel⟩
  have ccf := HQ.out.cf.cell
  have con := HQ.out.on.cell
  have cp := HQ.out.pb.cell
  go_wp2_with fail
  refine (decide_any f l a b c p Al cl _ HRL.out (fun x hx => (HW.out x hx).1) hm HPW.out).mono ?_; rintro e w5 ⟨k, s, O, err, Ax, cx, rfl, hv, ho, hb⟩
  have HVV := Lib.hid hv
  have HQ := Lib.hid ((HQ.out.below hb).alloc (.cells #[.int .i64 k, .int .i64 s, .slice Ax O.length cx] 36))
  have HRi := Lib.hid ((HRL.out.below hb).alloc (.cells #[.int .i64 k, .int .i64 s, .slice Ax O.length cx] 36))
  have HRX := Lib.hid (ho.toRds.alloc (.cells #[.int .i64 k, .int .i64 s, .slice Ax O.length cx] 36))
  have HV := Lib.hid (Blk.new w5 36 #[.int .i64 k, .int .i64 s, .slice Ax O.length cx])
  clear hv ho hb ccf con cp
  rcases HVV.out with ⟨_, rfl, rfl, rfl, rfl⟩ | ⟨_, _, rfl, rfl, rfl, rfl⟩ | ⟨_, _, _, rfl, rfl, rfl, rfl⟩ | ⟨_, _, _, h4, _⟩ | ⟨hr, hne, hl2, _, rfl, rfl, bb, hwho, hk⟩
  · clear HVV
    go_wp2_with fail
    go_ret
    exact ⟨rfl, HQ.out.bel⟩
  · clear HVV
    go_wp2_with fail
    go_ret
    exact ⟨rfl, HQ.out.bel⟩
  · clear HVV
    go_wp2_with fail
    go_ret
    exact ⟨rfl, HQ.out.bel⟩
  · rw [barD_crit a b c HC.out] at h4; cases h4
  · clear HVV
    have HFV := Lib.hid (fitV_of HF.out HR0.out HSM.out hr hne)
    have HWHO := Lib.hid hwho
    have HPL : Hid ((podsD l).length < 64 ∧ O.length < 64) := by
      have h1 := podsD_len l
      have h2 := hwho.len
      exact ⟨by omega, by omega⟩
    have HFB : Hid (fitsB f.room (fixD p (podsD l)) = bb) := by
      obtain ⟨_, _, _, h, _⟩ := hwho
      show _ = _
      rw [fitsB_perm (fixD_stay p (podsD l))]; exact h
    have HFL : Hid ((fixD p (podsD l)).length ≤ 64) := by
      show _ ≤ _
      have h1 := podsD_len l
      have h2 := fixT_len p (podsD l)
      unfold fixT at h2
      unfold fixD
      simp
      omega
    have HPW2 := Lib.hid (podsD_wf HF.out HW.out)
    have HFW := Lib.hid (show ∀ x ∈ fixD p (podsD l), x.Wf ∧ x.right = true from fun x hx => by
      unfold fixD at hx
      rcases List.mem_append.1 hx with h | h
      · exact HPW2.out x (List.mem_filter.1 h).1
      · rw [List.mem_singleton.1 h]; exact ⟨HPW.out, hr⟩)
    have hr0 := HR0.out
    have h0a : 0 ≤ f.room.a ∧ f.room.a ≤ 9223372036854775807 := ⟨hr0.1, hra.2⟩
    have h0b : 0 ≤ f.room.b ∧ f.room.b ≤ 9223372036854775807 := ⟨hr0.2.1, hrb.2⟩
    have h0c : 0 ≤ f.room.c ∧ f.room.c ≤ 9223372036854775807 := ⟨hr0.2.2, hrc.2⟩
    have HROOM := Lib.hid (And.intro h0a (And.intro h0b h0c))
    have HRR := Lib.hid hr
    have HK := Lib.hid hk
    clear hr0 h0a h0b h0c hra hrb hrc hwho hk hr hne
    go_wp2_with fail
    refine (pods_any l Al cl _ HRi.out (by omega)).mono ?_; rintro e w6 ⟨A6, c6, rfl, ho, hb⟩
    have HQ := Lib.hid (HQ.out.below hb)
    have HV := Lib.hid (HV.out.belowAll hb)
    have HRX := Lib.hid (HRX.out.below hb)
    have HRP := Lib.hid ho.toRds
    clear ho hb HRi
    go_wp2_with fail
    have HQ := Lib.hid HQ.out.drew
    have HV := Lib.hid HV.out.drew
    have HRP := Lib.hid HRP.out.drew
    have HRX := Lib.hid HRX.out.drew
    refine wp_region_held_drew (S := (fun w' => w'.cell? ⟨w.heap.size, 3, none⟩ = some (.int .i64 f.room.a) ∧ w'.cell? ⟨w.heap.size, 4, none⟩ = some (.int .i64 f.room.b) ∧ w'.cell? ⟨w.heap.size, 5, none⟩ = some (.int .i64 f.room.c) ∧ w'.cell? ⟨w.heap.size + 1 + 1, 0, none⟩ = some (.string p.id) ∧ w'.cell? ⟨w.heap.size + 1 + 1, 1, none⟩ = some (.int .i64 p.prio) ∧ w'.cell? ⟨w.heap.size + 1 + 1, 2, none⟩ = some (.bool p.crit) ∧ w'.cell? ⟨w.heap.size + 1 + 1, 3, none⟩ = some (.int .i64 p.q0) ∧ w'.cell? ⟨w.heap.size + 1 + 1, 4, none⟩ = some (.int .i64 p.q1) ∧ w'.cell? ⟨w.heap.size + 1 + 1, 5, none⟩ = some (.int .i64 p.q2) ∧ w'.cell? ⟨w.heap.size + 1 + 1, 6, none⟩ = some (.int .i64 p.l0) ∧ w'.cell? ⟨w.heap.size + 1 + 1, 7, none⟩ = some (.int .i64 p.l1) ∧ w'.cell? ⟨w.heap.size + 1 + 1, 8, none⟩ = some (.int .i64 p.l2) ∧ w'.cell? ⟨w.heap.size + 1 + 1, 9, none⟩ = some (.string p.image) ∧ w'.cell? ⟨w.heap.size + 1 + 1, 10, none⟩ = some (.int .i64 p.size))) (by kernel_rfl) (acCells HQ.out) (fun hHeld => ?_)
    refine held_take 0 57 (.pointer (some ⟨w.heap.size, 3, none⟩)) rfl rfl (by kernel_rfl) (by kernel_rfl) (by kernel_rfl) (fun _ _ _ h => h) (by rfl) (by intro w' hSw; (try dsimp only at hSw); go_simp; (try (with_reducible rfl))) (by assumption) ?_
    simp only [Act.put, List.setIfInBounds_toArray, List.set_cons_zero, List.set_cons_succ]
    refine held_take 1 58 (.agg #[.int .i64 f.room.a, .int .i64 f.room.b, .int .i64 f.room.c]) rfl rfl (by kernel_rfl) (by kernel_rfl) (by kernel_rfl) (fun _ _ _ h => h) (by rfl) (by intro w' hSw; (try dsimp only at hSw); go_simp; (try (with_reducible rfl))) (by assumption) ?_
    simp only [Act.put, List.setIfInBounds_toArray, List.set_cons_zero, List.set_cons_succ]
    refine held_take 2 59 (.slice A6 (podsD l).length c6) rfl rfl (by kernel_rfl) (by kernel_rfl) (by kernel_rfl) (fun _ _ _ h => h) (by rfl) (by intro w' hSw; (try dsimp only at hSw); go_simp; (try (with_reducible rfl))) (by assumption) ?_
    simp only [Act.put, List.setIfInBounds_toArray, List.set_cons_zero, List.set_cons_succ]
    refine held_take 3 60 (.agg #[.string p.id, .int .i64 p.prio, .bool p.crit, .int .i64 p.q0, .int .i64 p.q1, .int .i64 p.q2, .int .i64 p.l0, .int .i64 p.l1, .int .i64 p.l2, .string p.image, .int .i64 p.size]) rfl rfl (by kernel_rfl) (by kernel_rfl) (by kernel_rfl) (fun _ _ _ h => h) (by rfl) (by intro w' hSw; (try dsimp only at hSw); go_simp; (try (with_reducible rfl))) (by assumption) ?_
    simp only [Act.put, List.setIfInBounds_toArray, List.set_cons_zero, List.set_cons_succ]
    refine held_call 4 61 rfl rfl (by kernel_rfl) (by rfl) (fun K hK => ?_)
    go_simp
    go_at_call 16; with_reducible refine (fixed_any p (podsD l) A6 c6 _ HRP.out (by have := HPL.out; omega)).mono ?_; rintro e w7 ⟨A7, c7, rfl, ho, hb⟩
    have HQ := Lib.hid (HQ.out.below hb)
    have HV := Lib.hid (HV.out.belowAll hb)
    have HRP := Lib.hid (HRP.out.below hb)
    have HRX := Lib.hid (HRX.out.below hb)
    have HFX := Lib.hid ho.toRds
    clear ho hb
    refine hK _ _ (acCells HQ.out) ?_
    have hHeld := (show w7.cell? ⟨w.heap.size, 3, none⟩ = some (.int .i64 f.room.a) ∧ w7.cell? ⟨w.heap.size, 4, none⟩ = some (.int .i64 f.room.b) ∧ w7.cell? ⟨w.heap.size, 5, none⟩ = some (.int .i64 f.room.c) ∧ w7.cell? ⟨w.heap.size + 1 + 1, 0, none⟩ = some (.string p.id) ∧ w7.cell? ⟨w.heap.size + 1 + 1, 1, none⟩ = some (.int .i64 p.prio) ∧ w7.cell? ⟨w.heap.size + 1 + 1, 2, none⟩ = some (.bool p.crit) ∧ w7.cell? ⟨w.heap.size + 1 + 1, 3, none⟩ = some (.int .i64 p.q0) ∧ w7.cell? ⟨w.heap.size + 1 + 1, 4, none⟩ = some (.int .i64 p.q1) ∧ w7.cell? ⟨w.heap.size + 1 + 1, 5, none⟩ = some (.int .i64 p.q2) ∧ w7.cell? ⟨w.heap.size + 1 + 1, 6, none⟩ = some (.int .i64 p.l0) ∧ w7.cell? ⟨w.heap.size + 1 + 1, 7, none⟩ = some (.int .i64 p.l1) ∧ w7.cell? ⟨w.heap.size + 1 + 1, 8, none⟩ = some (.int .i64 p.l2) ∧ w7.cell? ⟨w.heap.size + 1 + 1, 9, none⟩ = some (.string p.image) ∧ w7.cell? ⟨w.heap.size + 1 + 1, 10, none⟩ = some (.int .i64 p.size) from acCells HQ.out)
    clear hK K
    simp only [Act.put, List.setIfInBounds_toArray, List.set_cons_zero, List.set_cons_succ]
    refine held_call 5 62 rfl rfl (by kernel_rfl) (by rfl) (fun K hK => ?_)
    go_simp
    go_at_call 15; with_reducible refine (withinV HFB.out rfl HFX.out (by have := HFL.out; omega) HFW.out HROOM.out.1 HROOM.out.2.1 HROOM.out.2.2).mono ?_; rintro e w8 ⟨rfl, hb⟩
    have HQ := Lib.hid (HQ.out.below hb)
    have HV := Lib.hid (HV.out.belowAll hb)
    have HRP := Lib.hid (HRP.out.below hb)
    have HRX := Lib.hid (HRX.out.below hb)
    clear hb
    refine hK _ _ (acCells HQ.out) ?_
    have hHeld := (show w8.cell? ⟨w.heap.size, 3, none⟩ = some (.int .i64 f.room.a) ∧ w8.cell? ⟨w.heap.size, 4, none⟩ = some (.int .i64 f.room.b) ∧ w8.cell? ⟨w.heap.size, 5, none⟩ = some (.int .i64 f.room.c) ∧ w8.cell? ⟨w.heap.size + 1 + 1, 0, none⟩ = some (.string p.id) ∧ w8.cell? ⟨w.heap.size + 1 + 1, 1, none⟩ = some (.int .i64 p.prio) ∧ w8.cell? ⟨w.heap.size + 1 + 1, 2, none⟩ = some (.bool p.crit) ∧ w8.cell? ⟨w.heap.size + 1 + 1, 3, none⟩ = some (.int .i64 p.q0) ∧ w8.cell? ⟨w.heap.size + 1 + 1, 4, none⟩ = some (.int .i64 p.q1) ∧ w8.cell? ⟨w.heap.size + 1 + 1, 5, none⟩ = some (.int .i64 p.q2) ∧ w8.cell? ⟨w.heap.size + 1 + 1, 6, none⟩ = some (.int .i64 p.l0) ∧ w8.cell? ⟨w.heap.size + 1 + 1, 7, none⟩ = some (.int .i64 p.l1) ∧ w8.cell? ⟨w.heap.size + 1 + 1, 8, none⟩ = some (.int .i64 p.l2) ∧ w8.cell? ⟨w.heap.size + 1 + 1, 9, none⟩ = some (.string p.image) ∧ w8.cell? ⟨w.heap.size + 1 + 1, 10, none⟩ = some (.int .i64 p.size) from acCells HQ.out)
    clear hK K
    simp only [Act.put, List.setIfInBounds_toArray, List.set_cons_zero, List.set_cons_succ]
    refine held_take 6 12 (.bool bb) rfl rfl (by kernel_rfl) (by kernel_rfl) (by kernel_rfl) (fun _ _ _ h => h) (by rfl) (by intro w' hSw; (try dsimp only at hSw); go_simp; (try (with_reducible rfl))) (by assumption) ?_
    simp only [Act.put, List.setIfInBounds_toArray, List.set_cons_zero, List.set_cons_succ]
    refine wpAnyH_done (by kernel_rfl) ?_ _
    clear hHeld
    have HBF := Lib.hid HQ.out.bel
    have HVF := Lib.hid HV.out
    cases bb
    · obtain rfl : O = [] := (by obtain ⟨_, _, _, _, _, h⟩ := HWHO.out; exact h rfl)
      obtain rfl : k = 4 := HK.out
      have cv := HVF.out.cell
      go_wp2_with fail
      go_ret
      exact ⟨rfl, HBF.out⟩
    · have HMIN := Lib.hid (minD HFV.out HWHO.out)
      have HLL : Hid ((leftD O (podsD l)).length < 64) := by show _ < _; have h1 := leftD_len O (podsD l); have := HPL.out; omega
      have HKV : Hid (k = 1 ∨ k = 2) := by
        show _ ∨ _
        have hk := HK.out
        rw [if_neg (by simp)] at hk
        split at hk
        · exact .inl hk
        · exact .inr hk
      have dk4 : (k == 4) = false := by have := HKV.out; simp; omega
      go_wp2_with fail
      have hBr : Below w8.heap.size w8 w8.drew := (Below.refl _ _).drew
      have HBr := Lib.hid hBr
      clear hBr
      go_cut [13] (fun st W => ∃ A8 c8, st = .slice A8 (leftD O (podsD l) ++ [p]).length c8 ∧ Own W w8.heap.size 29 encP (.slice A8 (leftD O (podsD l) ++ [p]).length c8) (leftD O (podsD l) ++ [p]) ∧ Below w8.heap.size w8 W)
      case first =>
        have HQd := Lib.hid HQ.out.drew
        have HVd := Lib.hid HV.out.drew
        have HRPd := Lib.hid HRP.out.drew
        have HRXd := Lib.hid HRX.out.drew
        refine wp_region_held_drew (S := (fun w' => w'.cell? ⟨w.heap.size + 1 + 1, 0, none⟩ = some (.string p.id) ∧ w'.cell? ⟨w.heap.size + 1 + 1, 1, none⟩ = some (.int .i64 p.prio) ∧ w'.cell? ⟨w.heap.size + 1 + 1, 2, none⟩ = some (.bool p.crit) ∧ w'.cell? ⟨w.heap.size + 1 + 1, 3, none⟩ = some (.int .i64 p.q0) ∧ w'.cell? ⟨w.heap.size + 1 + 1, 4, none⟩ = some (.int .i64 p.q1) ∧ w'.cell? ⟨w.heap.size + 1 + 1, 5, none⟩ = some (.int .i64 p.q2) ∧ w'.cell? ⟨w.heap.size + 1 + 1, 6, none⟩ = some (.int .i64 p.l0) ∧ w'.cell? ⟨w.heap.size + 1 + 1, 7, none⟩ = some (.int .i64 p.l1) ∧ w'.cell? ⟨w.heap.size + 1 + 1, 8, none⟩ = some (.int .i64 p.l2) ∧ w'.cell? ⟨w.heap.size + 1 + 1, 9, none⟩ = some (.string p.image) ∧ w'.cell? ⟨w.heap.size + 1 + 1, 10, none⟩ = some (.int .i64 p.size) ∧ w'.cell? ⟨w5.heap.size, 2, none⟩ = some (.slice Ax O.length cx))) (by kernel_rfl) (acCells2 HQd.out HVd.out) (fun hHeld => ?_)
        generalize w8.drew = wd at *
        have hb0 : Below wd.heap.size wd wd := Below.refl _ _
        have HB := Lib.hid hb0
        clear hb0
        have HQ := HQd
        have HV := HVd
        have HRP := HRPd
        have HRX := HRXd
        refine held_take 0 74 (.slice A6 (podsD l).length c6) rfl rfl (by kernel_rfl) (by kernel_rfl) (by kernel_rfl) (fun _ _ _ h => h) (by rfl) (by intro w' hSw; (try dsimp only at hSw); go_simp; (try (with_reducible rfl))) (by assumption) ?_
        simp only [Act.put, List.setIfInBounds_toArray, List.set_cons_zero, List.set_cons_succ]
        refine held_take 1 75 (.pointer (some ⟨w5.heap.size, 2, none⟩)) rfl rfl (by kernel_rfl) (by kernel_rfl) (by kernel_rfl) (fun _ _ _ h => h) (by rfl) (by intro w' hSw; (try dsimp only at hSw); go_simp; (try (with_reducible rfl))) (by assumption) ?_
        simp only [Act.put, List.setIfInBounds_toArray, List.set_cons_zero, List.set_cons_succ]
        refine held_take 2 76 (.slice Ax O.length cx) rfl rfl (by kernel_rfl) (by kernel_rfl) (by kernel_rfl) (fun _ _ _ h => h) (by rfl) (by intro w' hSw; (try dsimp only at hSw); go_simp; (try (with_reducible rfl))) (by assumption) ?_
        simp only [Act.put, List.setIfInBounds_toArray, List.set_cons_zero, List.set_cons_succ]
        refine held_take 4 78 (.agg #[.string p.id, .int .i64 p.prio, .bool p.crit, .int .i64 p.q0, .int .i64 p.q1, .int .i64 p.q2, .int .i64 p.l0, .int .i64 p.l1, .int .i64 p.l2, .string p.image, .int .i64 p.size]) rfl rfl (by kernel_rfl) (by kernel_rfl) (by kernel_rfl) (fun _ _ _ h => h) (by rfl) (by intro w' hSw; (try dsimp only at hSw); go_simp; (try (with_reducible rfl))) (by assumption) ?_
        simp only [Act.put, List.setIfInBounds_toArray, List.set_cons_zero, List.set_cons_succ]
        refine held_twoD 3 5 77 79 rfl rfl rfl rfl (by kernel_rfl) (by rfl) (by rfl) (fun K hK => ?_) (fun K hK => ?_)
        · go_simp
          go_at_call 13; with_reducible refine (without_any (podsD l) O A6 Ax c6 cx _ HRP.out HRX.out (by have := HPL.out; omega) (by have := HPL.out; omega)).mono ?_; rintro e w7 ⟨A7, c7, rfl, ho, hb⟩
          have HBS5 := Lib.hid HB.out.size
          have HOW := Lib.hid (ho.mono HBS5.out)
          have HB := Lib.hid (below_rV HB.out hb)
          clear ho hb
          have HQ := Lib.hid (HQd.out.below HB.out)
          have HV := Lib.hid (HVd.out.belowAll HB.out)
          have HRP := Lib.hid (HRPd.out.below HB.out)
          have HRX := Lib.hid (HRXd.out.below HB.out)
          refine hK _ _ (acCells2 HQ.out HV.out) ?_
          have hHeld := (show w7.cell? ⟨w.heap.size + 1 + 1, 0, none⟩ = some (.string p.id) ∧ w7.cell? ⟨w.heap.size + 1 + 1, 1, none⟩ = some (.int .i64 p.prio) ∧ w7.cell? ⟨w.heap.size + 1 + 1, 2, none⟩ = some (.bool p.crit) ∧ w7.cell? ⟨w.heap.size + 1 + 1, 3, none⟩ = some (.int .i64 p.q0) ∧ w7.cell? ⟨w.heap.size + 1 + 1, 4, none⟩ = some (.int .i64 p.q1) ∧ w7.cell? ⟨w.heap.size + 1 + 1, 5, none⟩ = some (.int .i64 p.q2) ∧ w7.cell? ⟨w.heap.size + 1 + 1, 6, none⟩ = some (.int .i64 p.l0) ∧ w7.cell? ⟨w.heap.size + 1 + 1, 7, none⟩ = some (.int .i64 p.l1) ∧ w7.cell? ⟨w.heap.size + 1 + 1, 8, none⟩ = some (.int .i64 p.l2) ∧ w7.cell? ⟨w.heap.size + 1 + 1, 9, none⟩ = some (.string p.image) ∧ w7.cell? ⟨w.heap.size + 1 + 1, 10, none⟩ = some (.int .i64 p.size) ∧ w7.cell? ⟨w5.heap.size, 2, none⟩ = some (.slice Ax O.length cx) from acCells2 HQ.out HV.out)
          clear hK K
          simp only [Act.put, List.setIfInBounds_toArray, List.set_cons_zero, List.set_cons_succ]
          refine held_call 5 79 rfl rfl (by kernel_rfl) (by rfl) (fun K hK => ?_)
          go_simp
          have HRW := Lib.hid (Rds.made (w7) encP [p] 29 #[.string p.id, .int .i64 p.prio, .bool p.crit, .int .i64 p.q0, .int .i64 p.q1, .int .i64 p.q2, .int .i64 p.l0, .int .i64 p.l1, .int .i64 p.l2, .string p.image, .int .i64 p.size] (0, 0) rfl)
          have HOW := Lib.hid (HOW.out.alloc (.cells #[.string p.id, .int .i64 p.prio, .bool p.crit, .int .i64 p.q0, .int .i64 p.q1, .int .i64 p.q2, .int .i64 p.l0, .int .i64 p.l1, .int .i64 p.l2, .string p.image, .int .i64 p.size] 29))
          have HB := Lib.hid (HB.out.alloc HB.out.size (.cells #[.string p.id, .int .i64 p.prio, .bool p.crit, .int .i64 p.q0, .int .i64 p.q1, .int .i64 p.q2, .int .i64 p.l0, .int .i64 p.l1, .int .i64 p.l2, .string p.image, .int .i64 p.size] 29))
          have HQ := Lib.hid (HQd.out.below HB.out)
          have HV := Lib.hid (HVd.out.belowAll HB.out)
          have HRP := Lib.hid (HRPd.out.below HB.out)
          have HRX := Lib.hid (HRXd.out.below HB.out)
          refine hK _ _ (acCells2 HQ.out HV.out) ?_
          have hHeld := (show ((w7).alloc (.cells #[.string p.id, .int .i64 p.prio, .bool p.crit, .int .i64 p.q0, .int .i64 p.q1, .int .i64 p.q2, .int .i64 p.l0, .int .i64 p.l1, .int .i64 p.l2, .string p.image, .int .i64 p.size] 29)).cell? ⟨w.heap.size + 1 + 1, 0, none⟩ = some (.string p.id) ∧ ((w7).alloc (.cells #[.string p.id, .int .i64 p.prio, .bool p.crit, .int .i64 p.q0, .int .i64 p.q1, .int .i64 p.q2, .int .i64 p.l0, .int .i64 p.l1, .int .i64 p.l2, .string p.image, .int .i64 p.size] 29)).cell? ⟨w.heap.size + 1 + 1, 1, none⟩ = some (.int .i64 p.prio) ∧ ((w7).alloc (.cells #[.string p.id, .int .i64 p.prio, .bool p.crit, .int .i64 p.q0, .int .i64 p.q1, .int .i64 p.q2, .int .i64 p.l0, .int .i64 p.l1, .int .i64 p.l2, .string p.image, .int .i64 p.size] 29)).cell? ⟨w.heap.size + 1 + 1, 2, none⟩ = some (.bool p.crit) ∧ ((w7).alloc (.cells #[.string p.id, .int .i64 p.prio, .bool p.crit, .int .i64 p.q0, .int .i64 p.q1, .int .i64 p.q2, .int .i64 p.l0, .int .i64 p.l1, .int .i64 p.l2, .string p.image, .int .i64 p.size] 29)).cell? ⟨w.heap.size + 1 + 1, 3, none⟩ = some (.int .i64 p.q0) ∧ ((w7).alloc (.cells #[.string p.id, .int .i64 p.prio, .bool p.crit, .int .i64 p.q0, .int .i64 p.q1, .int .i64 p.q2, .int .i64 p.l0, .int .i64 p.l1, .int .i64 p.l2, .string p.image, .int .i64 p.size] 29)).cell? ⟨w.heap.size + 1 + 1, 4, none⟩ = some (.int .i64 p.q1) ∧ ((w7).alloc (.cells #[.string p.id, .int .i64 p.prio, .bool p.crit, .int .i64 p.q0, .int .i64 p.q1, .int .i64 p.q2, .int .i64 p.l0, .int .i64 p.l1, .int .i64 p.l2, .string p.image, .int .i64 p.size] 29)).cell? ⟨w.heap.size + 1 + 1, 5, none⟩ = some (.int .i64 p.q2) ∧ ((w7).alloc (.cells #[.string p.id, .int .i64 p.prio, .bool p.crit, .int .i64 p.q0, .int .i64 p.q1, .int .i64 p.q2, .int .i64 p.l0, .int .i64 p.l1, .int .i64 p.l2, .string p.image, .int .i64 p.size] 29)).cell? ⟨w.heap.size + 1 + 1, 6, none⟩ = some (.int .i64 p.l0) ∧ ((w7).alloc (.cells #[.string p.id, .int .i64 p.prio, .bool p.crit, .int .i64 p.q0, .int .i64 p.q1, .int .i64 p.q2, .int .i64 p.l0, .int .i64 p.l1, .int .i64 p.l2, .string p.image, .int .i64 p.size] 29)).cell? ⟨w.heap.size + 1 + 1, 7, none⟩ = some (.int .i64 p.l1) ∧ ((w7).alloc (.cells #[.string p.id, .int .i64 p.prio, .bool p.crit, .int .i64 p.q0, .int .i64 p.q1, .int .i64 p.q2, .int .i64 p.l0, .int .i64 p.l1, .int .i64 p.l2, .string p.image, .int .i64 p.size] 29)).cell? ⟨w.heap.size + 1 + 1, 8, none⟩ = some (.int .i64 p.l2) ∧ ((w7).alloc (.cells #[.string p.id, .int .i64 p.prio, .bool p.crit, .int .i64 p.q0, .int .i64 p.q1, .int .i64 p.q2, .int .i64 p.l0, .int .i64 p.l1, .int .i64 p.l2, .string p.image, .int .i64 p.size] 29)).cell? ⟨w.heap.size + 1 + 1, 9, none⟩ = some (.string p.image) ∧ ((w7).alloc (.cells #[.string p.id, .int .i64 p.prio, .bool p.crit, .int .i64 p.q0, .int .i64 p.q1, .int .i64 p.q2, .int .i64 p.l0, .int .i64 p.l1, .int .i64 p.l2, .string p.image, .int .i64 p.size] 29)).cell? ⟨w.heap.size + 1 + 1, 10, none⟩ = some (.int .i64 p.size) ∧ ((w7).alloc (.cells #[.string p.id, .int .i64 p.prio, .bool p.crit, .int .i64 p.q0, .int .i64 p.q1, .int .i64 p.q2, .int .i64 p.l0, .int .i64 p.l1, .int .i64 p.l2, .string p.image, .int .i64 p.size] 29)).cell? ⟨w5.heap.size, 2, none⟩ = some (.slice Ax O.length cx) from acCells2 HQ.out HV.out)
          clear hK K
          simp only [Act.put, List.setIfInBounds_toArray, List.set_cons_zero, List.set_cons_succ]
          refine held_call 6 80 rfl rfl (by kernel_rfl) (by rfl) (fun K hK => ?_)
          refine wp_app (w7.alloc (.cells #[.string p.id, .int .i64 p.prio, .bool p.crit, .int .i64 p.q0, .int .i64 p.q1, .int .i64 p.q2, .int .i64 p.l0, .int .i64 p.l1, .int .i64 p.l2, .string p.image, .int .i64 p.size] 29)) elemP encP (.tmp 77) (.tmp 79) rfl wd.heap.size _ (leftD O (podsD l)) (by simp [Act.eval]) HOW.out _ [p] 1 (by simp [Act.eval]) HRW.out (by have := HLL.out; simp; omega) (by have := HLL.out; simp; omega) HB.out.size ?_
          intro A8 c8 w9 ho hg _
          have hb7 := HOW.out.belowGrown HB.out hg (Nat.le_refl _) HB.out.size
          have HOW := Lib.hid ho
          have HB := Lib.hid hb7
          clear ho hg hb7
          have HQ := Lib.hid (HQd.out.below HB.out)
          have HV := Lib.hid (HVd.out.belowAll HB.out)
          have HRP := Lib.hid (HRPd.out.below HB.out)
          have HRX := Lib.hid (HRXd.out.below HB.out)
          refine hK _ _ (acCells2 HQ.out HV.out) ?_
          have hHeld := (show w9.cell? ⟨w.heap.size + 1 + 1, 0, none⟩ = some (.string p.id) ∧ w9.cell? ⟨w.heap.size + 1 + 1, 1, none⟩ = some (.int .i64 p.prio) ∧ w9.cell? ⟨w.heap.size + 1 + 1, 2, none⟩ = some (.bool p.crit) ∧ w9.cell? ⟨w.heap.size + 1 + 1, 3, none⟩ = some (.int .i64 p.q0) ∧ w9.cell? ⟨w.heap.size + 1 + 1, 4, none⟩ = some (.int .i64 p.q1) ∧ w9.cell? ⟨w.heap.size + 1 + 1, 5, none⟩ = some (.int .i64 p.q2) ∧ w9.cell? ⟨w.heap.size + 1 + 1, 6, none⟩ = some (.int .i64 p.l0) ∧ w9.cell? ⟨w.heap.size + 1 + 1, 7, none⟩ = some (.int .i64 p.l1) ∧ w9.cell? ⟨w.heap.size + 1 + 1, 8, none⟩ = some (.int .i64 p.l2) ∧ w9.cell? ⟨w.heap.size + 1 + 1, 9, none⟩ = some (.string p.image) ∧ w9.cell? ⟨w.heap.size + 1 + 1, 10, none⟩ = some (.int .i64 p.size) ∧ w9.cell? ⟨w5.heap.size, 2, none⟩ = some (.slice Ax O.length cx) from acCells2 HQ.out HV.out)
          clear hK K
          simp only [Act.put, List.setIfInBounds_toArray, List.set_cons_zero, List.set_cons_succ]
          refine held_take 7 13 (.slice A8 ((leftD O (podsD l)).length + [p].length) c8) rfl rfl (by kernel_rfl) (by kernel_rfl) (by kernel_rfl) (fun _ _ _ h => h) (by rfl) (by intro w' hSw; (try dsimp only at hSw); go_simp; (try (with_reducible rfl))) (by assumption) ?_
          simp only [Act.put, List.setIfInBounds_toArray, List.set_cons_zero, List.set_cons_succ]
          refine wpAnyH_done (by kernel_rfl) ?_ _
          clear hHeld
          go_wp2_with fail
          go_meet
          exact ⟨A8, c8, by simp, by have h := HOW.out.mono HBr.out.size; simpa [List.length_append] using h, below_rV HBr.out HB.out⟩
        · go_simp
          have HRW := Lib.hid (Rds.made (wd) encP [p] 29 #[.string p.id, .int .i64 p.prio, .bool p.crit, .int .i64 p.q0, .int .i64 p.q1, .int .i64 p.q2, .int .i64 p.l0, .int .i64 p.l1, .int .i64 p.l2, .string p.image, .int .i64 p.size] (0, 0) rfl)
          have HB := Lib.hid (HB.out.alloc HB.out.size (.cells #[.string p.id, .int .i64 p.prio, .bool p.crit, .int .i64 p.q0, .int .i64 p.q1, .int .i64 p.q2, .int .i64 p.l0, .int .i64 p.l1, .int .i64 p.l2, .string p.image, .int .i64 p.size] 29))
          have HQ := Lib.hid (HQd.out.below HB.out)
          have HV := Lib.hid (HVd.out.belowAll HB.out)
          have HRP := Lib.hid (HRPd.out.below HB.out)
          have HRX := Lib.hid (HRXd.out.below HB.out)
          refine hK _ _ (acCells2 HQ.out HV.out) ?_
          have hHeld := (show ((wd).alloc (.cells #[.string p.id, .int .i64 p.prio, .bool p.crit, .int .i64 p.q0, .int .i64 p.q1, .int .i64 p.q2, .int .i64 p.l0, .int .i64 p.l1, .int .i64 p.l2, .string p.image, .int .i64 p.size] 29)).cell? ⟨w.heap.size + 1 + 1, 0, none⟩ = some (.string p.id) ∧ ((wd).alloc (.cells #[.string p.id, .int .i64 p.prio, .bool p.crit, .int .i64 p.q0, .int .i64 p.q1, .int .i64 p.q2, .int .i64 p.l0, .int .i64 p.l1, .int .i64 p.l2, .string p.image, .int .i64 p.size] 29)).cell? ⟨w.heap.size + 1 + 1, 1, none⟩ = some (.int .i64 p.prio) ∧ ((wd).alloc (.cells #[.string p.id, .int .i64 p.prio, .bool p.crit, .int .i64 p.q0, .int .i64 p.q1, .int .i64 p.q2, .int .i64 p.l0, .int .i64 p.l1, .int .i64 p.l2, .string p.image, .int .i64 p.size] 29)).cell? ⟨w.heap.size + 1 + 1, 2, none⟩ = some (.bool p.crit) ∧ ((wd).alloc (.cells #[.string p.id, .int .i64 p.prio, .bool p.crit, .int .i64 p.q0, .int .i64 p.q1, .int .i64 p.q2, .int .i64 p.l0, .int .i64 p.l1, .int .i64 p.l2, .string p.image, .int .i64 p.size] 29)).cell? ⟨w.heap.size + 1 + 1, 3, none⟩ = some (.int .i64 p.q0) ∧ ((wd).alloc (.cells #[.string p.id, .int .i64 p.prio, .bool p.crit, .int .i64 p.q0, .int .i64 p.q1, .int .i64 p.q2, .int .i64 p.l0, .int .i64 p.l1, .int .i64 p.l2, .string p.image, .int .i64 p.size] 29)).cell? ⟨w.heap.size + 1 + 1, 4, none⟩ = some (.int .i64 p.q1) ∧ ((wd).alloc (.cells #[.string p.id, .int .i64 p.prio, .bool p.crit, .int .i64 p.q0, .int .i64 p.q1, .int .i64 p.q2, .int .i64 p.l0, .int .i64 p.l1, .int .i64 p.l2, .string p.image, .int .i64 p.size] 29)).cell? ⟨w.heap.size + 1 + 1, 5, none⟩ = some (.int .i64 p.q2) ∧ ((wd).alloc (.cells #[.string p.id, .int .i64 p.prio, .bool p.crit, .int .i64 p.q0, .int .i64 p.q1, .int .i64 p.q2, .int .i64 p.l0, .int .i64 p.l1, .int .i64 p.l2, .string p.image, .int .i64 p.size] 29)).cell? ⟨w.heap.size + 1 + 1, 6, none⟩ = some (.int .i64 p.l0) ∧ ((wd).alloc (.cells #[.string p.id, .int .i64 p.prio, .bool p.crit, .int .i64 p.q0, .int .i64 p.q1, .int .i64 p.q2, .int .i64 p.l0, .int .i64 p.l1, .int .i64 p.l2, .string p.image, .int .i64 p.size] 29)).cell? ⟨w.heap.size + 1 + 1, 7, none⟩ = some (.int .i64 p.l1) ∧ ((wd).alloc (.cells #[.string p.id, .int .i64 p.prio, .bool p.crit, .int .i64 p.q0, .int .i64 p.q1, .int .i64 p.q2, .int .i64 p.l0, .int .i64 p.l1, .int .i64 p.l2, .string p.image, .int .i64 p.size] 29)).cell? ⟨w.heap.size + 1 + 1, 8, none⟩ = some (.int .i64 p.l2) ∧ ((wd).alloc (.cells #[.string p.id, .int .i64 p.prio, .bool p.crit, .int .i64 p.q0, .int .i64 p.q1, .int .i64 p.q2, .int .i64 p.l0, .int .i64 p.l1, .int .i64 p.l2, .string p.image, .int .i64 p.size] 29)).cell? ⟨w.heap.size + 1 + 1, 9, none⟩ = some (.string p.image) ∧ ((wd).alloc (.cells #[.string p.id, .int .i64 p.prio, .bool p.crit, .int .i64 p.q0, .int .i64 p.q1, .int .i64 p.q2, .int .i64 p.l0, .int .i64 p.l1, .int .i64 p.l2, .string p.image, .int .i64 p.size] 29)).cell? ⟨w.heap.size + 1 + 1, 10, none⟩ = some (.int .i64 p.size) ∧ ((wd).alloc (.cells #[.string p.id, .int .i64 p.prio, .bool p.crit, .int .i64 p.q0, .int .i64 p.q1, .int .i64 p.q2, .int .i64 p.l0, .int .i64 p.l1, .int .i64 p.l2, .string p.image, .int .i64 p.size] 29)).cell? ⟨w5.heap.size, 2, none⟩ = some (.slice Ax O.length cx) from acCells2 HQ.out HV.out)
          clear hK K
          simp only [Act.put, List.setIfInBounds_toArray, List.set_cons_zero, List.set_cons_succ]
          refine held_call 3 77 rfl rfl (by kernel_rfl) (by rfl) (fun K hK => ?_)
          go_simp
          go_at_call 13; with_reducible refine (without_any (podsD l) O A6 Ax c6 cx _ HRP.out HRX.out (by have := HPL.out; omega) (by have := HPL.out; omega)).mono ?_; rintro e w7 ⟨A7, c7, rfl, ho, hb⟩
          have HBS5 := Lib.hid HB.out.size
          have HOW := Lib.hid (ho.mono HBS5.out)
          have HRW := Lib.hid (HRW.out.below hb)
          have HB := Lib.hid (below_rV HB.out hb)
          clear ho hb
          have HQ := Lib.hid (HQd.out.below HB.out)
          have HV := Lib.hid (HVd.out.belowAll HB.out)
          have HRP := Lib.hid (HRPd.out.below HB.out)
          have HRX := Lib.hid (HRXd.out.below HB.out)
          refine hK _ _ (acCells2 HQ.out HV.out) ?_
          have hHeld := (show w7.cell? ⟨w.heap.size + 1 + 1, 0, none⟩ = some (.string p.id) ∧ w7.cell? ⟨w.heap.size + 1 + 1, 1, none⟩ = some (.int .i64 p.prio) ∧ w7.cell? ⟨w.heap.size + 1 + 1, 2, none⟩ = some (.bool p.crit) ∧ w7.cell? ⟨w.heap.size + 1 + 1, 3, none⟩ = some (.int .i64 p.q0) ∧ w7.cell? ⟨w.heap.size + 1 + 1, 4, none⟩ = some (.int .i64 p.q1) ∧ w7.cell? ⟨w.heap.size + 1 + 1, 5, none⟩ = some (.int .i64 p.q2) ∧ w7.cell? ⟨w.heap.size + 1 + 1, 6, none⟩ = some (.int .i64 p.l0) ∧ w7.cell? ⟨w.heap.size + 1 + 1, 7, none⟩ = some (.int .i64 p.l1) ∧ w7.cell? ⟨w.heap.size + 1 + 1, 8, none⟩ = some (.int .i64 p.l2) ∧ w7.cell? ⟨w.heap.size + 1 + 1, 9, none⟩ = some (.string p.image) ∧ w7.cell? ⟨w.heap.size + 1 + 1, 10, none⟩ = some (.int .i64 p.size) ∧ w7.cell? ⟨w5.heap.size, 2, none⟩ = some (.slice Ax O.length cx) from acCells2 HQ.out HV.out)
          clear hK K
          simp only [Act.put, List.setIfInBounds_toArray, List.set_cons_zero, List.set_cons_succ]
          refine held_call 6 80 rfl rfl (by kernel_rfl) (by rfl) (fun K hK => ?_)
          refine wp_app (w7) elemP encP (.tmp 77) (.tmp 79) rfl wd.heap.size _ (leftD O (podsD l)) (by simp [Act.eval]) HOW.out _ [p] 1 (by simp [Act.eval]) HRW.out (by have := HLL.out; simp; omega) (by have := HLL.out; simp; omega) HB.out.size ?_
          intro A8 c8 w9 ho hg _
          have hb7 := HOW.out.belowGrown HB.out hg (Nat.le_refl _) HB.out.size
          have HOW := Lib.hid ho
          have HB := Lib.hid hb7
          clear ho hg hb7
          have HQ := Lib.hid (HQd.out.below HB.out)
          have HV := Lib.hid (HVd.out.belowAll HB.out)
          have HRP := Lib.hid (HRPd.out.below HB.out)
          have HRX := Lib.hid (HRXd.out.below HB.out)
          refine hK _ _ (acCells2 HQ.out HV.out) ?_
          have hHeld := (show w9.cell? ⟨w.heap.size + 1 + 1, 0, none⟩ = some (.string p.id) ∧ w9.cell? ⟨w.heap.size + 1 + 1, 1, none⟩ = some (.int .i64 p.prio) ∧ w9.cell? ⟨w.heap.size + 1 + 1, 2, none⟩ = some (.bool p.crit) ∧ w9.cell? ⟨w.heap.size + 1 + 1, 3, none⟩ = some (.int .i64 p.q0) ∧ w9.cell? ⟨w.heap.size + 1 + 1, 4, none⟩ = some (.int .i64 p.q1) ∧ w9.cell? ⟨w.heap.size + 1 + 1, 5, none⟩ = some (.int .i64 p.q2) ∧ w9.cell? ⟨w.heap.size + 1 + 1, 6, none⟩ = some (.int .i64 p.l0) ∧ w9.cell? ⟨w.heap.size + 1 + 1, 7, none⟩ = some (.int .i64 p.l1) ∧ w9.cell? ⟨w.heap.size + 1 + 1, 8, none⟩ = some (.int .i64 p.l2) ∧ w9.cell? ⟨w.heap.size + 1 + 1, 9, none⟩ = some (.string p.image) ∧ w9.cell? ⟨w.heap.size + 1 + 1, 10, none⟩ = some (.int .i64 p.size) ∧ w9.cell? ⟨w5.heap.size, 2, none⟩ = some (.slice Ax O.length cx) from acCells2 HQ.out HV.out)
          clear hK K
          simp only [Act.put, List.setIfInBounds_toArray, List.set_cons_zero, List.set_cons_succ]
          refine held_take 7 13 (.slice A8 ((leftD O (podsD l)).length + [p].length) c8) rfl rfl (by kernel_rfl) (by kernel_rfl) (by kernel_rfl) (fun _ _ _ h => h) (by rfl) (by intro w' hSw; (try dsimp only at hSw); go_simp; (try (with_reducible rfl))) (by assumption) ?_
          simp only [Act.put, List.setIfInBounds_toArray, List.set_cons_zero, List.set_cons_succ]
          refine wpAnyH_done (by kernel_rfl) ?_ _
          clear hHeld
          go_wp2_with fail
          go_meet
          exact ⟨A8, c8, by simp, by have h := HOW.out.mono HBr.out.size; simpa [List.length_append] using h, below_rV HBr.out HB.out⟩
      case rest =>
        obtain ⟨As, cs, rfl, ho8, hb8⟩ := hcut
        rename World => W6
        have HQ := Lib.hid (HQ.out.below hb8)
        have HV := Lib.hid (HV.out.belowAll hb8)
        have HRP := Lib.hid (HRP.out.below hb8)
        have HRX := Lib.hid (HRX.out.below hb8)
        have HS := Lib.hid ho8.toRds
        have HWS := Lib.hid (show ∀ x ∈ leftD O (podsD l) ++ [p], x.Wf ∧ x.right = true from fun x hx => by
          rcases List.mem_append.1 hx with h | h
          · exact HPW2.out x (List.mem_filter.1 h).1
          · rw [List.mem_singleton.1 h]; exact ⟨HPW.out, HRR.out⟩)
        have HSB := Lib.hid HMIN.out.b
        have HSL : Hid ((leftD O (podsD l) ++ [p]).length ≤ 64) := by show _ ≤ _; have := HLL.out; rw [List.length_append]; simp; omega
        clear ho8 hb8 HBr
        obtain ⟨ST, hST⟩ : ∃ ST, leftD O (podsD l) ++ [p] = ST := ⟨_, rfl⟩
        have HMA := Lib.hid HMIN.out.a
        have HMIN : Hid (MinT f.room p (podsD l) O ST) := ⟨HMIN.out.d, hST ▸ HMIN.out.e⟩
        rw [hST] at HS HWS HSB HSL HMA ⊢
        clear hST dk4
        go_upto_region 12 with fail
        go_cut [95] (fun v W => v = .bool false ∧ Below W6.heap.size W6 W)
        case first =>
          have ccf := HQ.out.cf.cell
          have cv := HV.out.cell
          rcases HKV.out with rfl | rfl
          all_goals
            go_wp2_with fail
            refine (withinV HMA.out rfl HS.out HSL.out HWS.out HROOM.out.1 HROOM.out.2.1 HROOM.out.2.2).mono ?_; rintro e w9 ⟨rfl, hb⟩
            go_wp2_with fail
            go_meet
            exact ⟨rfl, hb⟩
        case rest =>
          obtain ⟨rfl, hb9⟩ := hcut
          rename World => W0
          have HQ0 := Lib.hid (HQ.out.below hb9)
          have HV0 := Lib.hid (HV.out.belowAll hb9)
          have HRP0 := Lib.hid (HRP.out.below hb9)
          have HX0 := Lib.hid (HRX.out.below hb9)
          have HS0 := Lib.hid (HS.out.below hb9)
          clear hb9 HQ HV HRP HRX HS
          have hpl := HPL.out.1
          have hol := HPL.out.2
          have hsl : ST.length ≤ 64 := HSL.out
          go_wp2_with fail
          go_loopw [14, 15, 16] (fun ii ff kk wr => ∃ i : Nat, i ≤ O.length ∧ ii = .int .i64 i ∧ Below W0.heap.size W0 wr) (fun ii _ _ _ => O.length - (intOf ii).toNat)
          case atStart => exact ⟨0, by omega, rfl, Below.refl _ _⟩
          case round =>
            obtain ⟨i, hi, rfl, hbl⟩ := hrel
            have HQB := Lib.hid hbl
            clear hbl
            by_cases hlt : i < O.length
            · have dk : decide ((i : Int) < (O.length : Int)) = true := decide_eq_true (by omega)
              have dk2 : (i : Int) < (O.length : Int) := by omega
              obtain ⟨bx, ox, hB⟩ : ∃ bi oi, Ax = some ⟨bi, oi, none⟩ := by obtain ⟨bi, oi, e, _⟩ := HX0.out.str hlt; exact ⟨bi, oi, e⟩
              obtain rfl : Ax = some ⟨bx, ox, none⟩ := hB
              have HC1 := Lib.hid (fun (W : World) (hB : Below W0.heap.size W0 W) => show W.cell? ⟨bx, ox + i, none⟩ = some (.string O[i]) from by
                obtain ⟨b', off', e, _, h⟩ := (HX0.out.below hB).str hlt
                injection e with e; injection e with e1 e2; subst e1; subst e2; exact h)
              have HD := Lib.hid (HMIN.out.d i hlt)
              have HSO := Lib.hid (List.getElem_mem hlt)
              have HLO : Hid (0 < O.length) := Nat.lt_of_le_of_lt (Nat.zero_le _) hlt
              have cv := (HV0.out.belowAll HQB.out).cell
              generalize O[i] = s at *
              go_wp2_with fail
              go_loopw [15, 16] (fun ff kk wq => ∃ k : Nat, k ≤ (podsD l).length ∧ ff = .bool (anyId ((podsD l).take k) s) ∧ kk = .int .i64 k ∧ Below W0.heap.size W0 wq) (fun _ kk _ => (podsD l).length - (intOf kk).toNat)
              case atStart => exact ⟨0, by omega, rfl, rfl, HQB.out⟩
              case round =>
                clear HQB
                obtain ⟨k, hk, rfl, rfl, hbl⟩ := hrel
                have HQB := Lib.hid hbl
                clear hbl
                by_cases hkt : k < (podsD l).length
                · have dq : decide ((k : Int) < ((podsD l).length : Int)) = true := decide_eq_true (by omega)
                  have dq2 : (k : Int) < ((podsD l).length : Int) := by omega
                  obtain ⟨b, off, hA⟩ := HRP0.out.some_ hkt
                  obtain rfl : A6 = some ⟨b, off, none⟩ := hA
                  have HYK := Lib.hid (List.getElem?_eq_getElem hkt)
                  have HNX := Lib.hid (anyId_next (podsD l) s k hkt)
                  have HME := Lib.hid (HMIN.out.e k hkt)
                  have HWYY := Lib.hid (HPW2.out _ (List.getElem_mem hkt))
                  generalize (podsD l)[k] = y at *
                  cases h2 : (y.id.toList == s.toList)
                  · have HN : Hid (Value.bool (anyId ((podsD l).take k) s) = Value.bool (anyId ((podsD l).take (k + 1)) s)) := by show _ = _; rw [HNX.out, h2, Bool.or_false]
                    have HE := Lib.hid h2
                    clear h2 HNX HME
                    obtain ⟨av, hav⟩ : ∃ v, anyId ((podsD l).take k) s = v := ⟨_, rfl⟩
                    rw [hav] at HN ⊢
                    clear hav
                    go_wp2_with fail
                    have HQB := Lib.hid HQB.out.drew
                    have z0 := (HRP0.out.pdAt HQB.out HYK.out).1
                    have z1 := (HC1.out _ HQB.out)
                    have z2 := (HV0.out.belowAll HQB.out).cell 2
                    refine wp_region_held_drew (S := (fun w' => w'.cell? ⟨b, off + k * 11, none⟩ = some (.string y.id) ∧ w'.cell? ⟨w5.heap.size, 2, none⟩ = some (.slice (some ⟨bx, ox, none⟩) O.length cx) ∧ w'.cell? ⟨bx, ox + i, none⟩ = some (.string s))) (by kernel_rfl) (⟨z0, z2, z1⟩) (fun hHeld => ?_)
                    clear z0 z1 z2
                    refine held_take 0 109 (.slice (some ⟨b, off, none⟩) (podsD l).length c6) rfl rfl (by kernel_rfl) (by kernel_rfl) (by kernel_rfl) (fun _ _ _ h => h) (by rfl) (by intro w' hSw; (try dsimp only at hSw); go_simp; (try (with_reducible rfl))) (by assumption) ?_
                    simp only [Act.put, List.setIfInBounds_toArray, List.set_cons_zero, List.set_cons_succ]
                    refine held_take 1 110 (.int .i64 k) rfl rfl (by kernel_rfl) (by kernel_rfl) (by kernel_rfl) (fun _ _ _ h => h) (by rfl) (by intro w' hSw; (try dsimp only at hSw); go_simp; (try (with_reducible rfl))) (by assumption) ?_
                    simp only [Act.put, List.setIfInBounds_toArray, List.set_cons_zero, List.set_cons_succ]
                    refine held_take 2 111 (.pointer (some ⟨b, off + k * 11, none⟩)) rfl rfl (by kernel_rfl) (by kernel_rfl) (by kernel_rfl) (fun _ _ _ h => h) (by rfl) (by intro w' hSw; (try dsimp only at hSw); go_simp; (try (with_reducible rfl))) (by assumption) ?_
                    simp only [Act.put, List.setIfInBounds_toArray, List.set_cons_zero, List.set_cons_succ]
                    refine held_take 3 112 (.pointer (some ⟨b, off + k * 11, none⟩)) rfl rfl (by kernel_rfl) (by kernel_rfl) (by kernel_rfl) (fun _ _ _ h => h) (by rfl) (by intro w' hSw; (try dsimp only at hSw); go_simp; (try (with_reducible rfl))) (by assumption) ?_
                    simp only [Act.put, List.setIfInBounds_toArray, List.set_cons_zero, List.set_cons_succ]
                    refine held_take 4 113 (.string y.id) rfl rfl (by kernel_rfl) (by kernel_rfl) (by kernel_rfl) (fun _ _ _ h => h) (by rfl) (by intro w' hSw; (try dsimp only at hSw); go_simp; (try (with_reducible rfl))) (by assumption) ?_
                    simp only [Act.put, List.setIfInBounds_toArray, List.set_cons_zero, List.set_cons_succ]
                    refine held_take 5 114 (.pointer (some ⟨w5.heap.size, 2, none⟩)) rfl rfl (by kernel_rfl) (by kernel_rfl) (by kernel_rfl) (fun _ _ _ h => h) (by rfl) (by intro w' hSw; (try dsimp only at hSw); go_simp; (try (with_reducible rfl))) (by assumption) ?_
                    simp only [Act.put, List.setIfInBounds_toArray, List.set_cons_zero, List.set_cons_succ]
                    refine held_take 6 115 (.slice (some ⟨bx, ox, none⟩) O.length cx) rfl rfl (by kernel_rfl) (by kernel_rfl) (by kernel_rfl) (fun _ _ _ h => h) (by rfl) (by intro w' hSw; (try dsimp only at hSw); go_simp; (try (with_reducible rfl))) (by assumption) ?_
                    simp only [Act.put, List.setIfInBounds_toArray, List.set_cons_zero, List.set_cons_succ]
                    refine held_take 7 116 (.int .i64 i) rfl rfl (by kernel_rfl) (by kernel_rfl) (by kernel_rfl) (fun _ _ _ h => h) (by rfl) (by intro w' hSw; (try dsimp only at hSw); go_simp; (try (with_reducible rfl))) (by assumption) ?_
                    simp only [Act.put, List.setIfInBounds_toArray, List.set_cons_zero, List.set_cons_succ]
                    refine held_take 8 117 (.pointer (some ⟨bx, ox + i, none⟩)) rfl rfl (by kernel_rfl) (by kernel_rfl) (by kernel_rfl) (fun _ _ _ h => h) (by rfl) (by intro w' hSw; (try dsimp only at hSw); go_simp; (try (with_reducible rfl))) (by assumption) ?_
                    simp only [Act.put, List.setIfInBounds_toArray, List.set_cons_zero, List.set_cons_succ]
                    refine held_take 9 118 (.string s) rfl rfl (by kernel_rfl) (by kernel_rfl) (by kernel_rfl) (fun _ _ _ h => h) (by rfl) (by intro w' hSw; (try dsimp only at hSw); go_simp; (try (with_reducible rfl))) (by assumption) ?_
                    simp only [Act.put, List.setIfInBounds_toArray, List.set_cons_zero, List.set_cons_succ]
                    refine held_take 10 119 (.bool false) rfl rfl (by kernel_rfl) (by kernel_rfl) (by kernel_rfl) (fun _ _ _ h => h) (by rfl) (by intro w' hSw; (try dsimp only at hSw); go_simp; (first | done | with_reducible rfl | (have hh := HE.out; simpa using hh))) (by assumption) ?_
                    simp only [Act.put, List.setIfInBounds_toArray, List.set_cons_zero, List.set_cons_succ]
                    refine wpAnyH_done (by kernel_rfl) ?_ _
                    clear hHeld
                    go_wp2_with fail
                    go_roundw
                    case rel => exact ⟨k + 1, by omega, HN.out, by go_num, HQB.out⟩
                    case measure => simp [intOf]; omega
                  · have HN : Hid (Value.bool true = Value.bool (anyId ((podsD l).take (k + 1)) s)) := by show _ = _; rw [HNX.out, h2, Bool.or_true]
                    have HE := Lib.hid h2
                    have hid := toList_injV h2
                    have hmem : y.id ∈ O := by rw [hid]; exact HSO.out
                    obtain ⟨m1, m2, m3, m4⟩ := HME.out hmem
                    have HMY : Hid (mayV p y = true) := by show _ = _; unfold mayV; rw [m1, m2, decide_eq_true m3]; rfl
                    have HFY := Lib.hid m4
                    have HWY := Lib.hid (show ∀ x ∈ ST ++ [y], x.Wf ∧ x.right = true from fun x hx => by
                      rcases List.mem_append.1 hx with h | h
                      · exact HWS.out x h
                      · rw [List.mem_singleton.1 h]; exact HWYY.out)
                    have HYL : Hid ((ST ++ [y]).length ≤ 64) := by show _ ≤ _; have := HSB.out; have := HLO.out; have := HPL.out; rw [List.length_append]; simp; omega
                    clear h2 HNX HME hid hmem m1 m2 m3 m4
                    obtain ⟨av, hav⟩ : ∃ v, anyId ((podsD l).take k) s = v := ⟨_, rfl⟩
                    rw [hav]
                    clear hav
                    go_wp2_with fail
                    have HQB := Lib.hid HQB.out.drew
                    have z0 := (HRP0.out.pdAt HQB.out HYK.out).1
                    have z1 := (HC1.out _ HQB.out)
                    have z2 := (HV0.out.belowAll HQB.out).cell 2
                    refine wp_region_held_drew (S := (fun w' => w'.cell? ⟨b, off + k * 11, none⟩ = some (.string y.id) ∧ w'.cell? ⟨w5.heap.size, 2, none⟩ = some (.slice (some ⟨bx, ox, none⟩) O.length cx) ∧ w'.cell? ⟨bx, ox + i, none⟩ = some (.string s))) (by kernel_rfl) (⟨z0, z2, z1⟩) (fun hHeld => ?_)
                    clear z0 z1 z2
                    refine held_take 0 109 (.slice (some ⟨b, off, none⟩) (podsD l).length c6) rfl rfl (by kernel_rfl) (by kernel_rfl) (by kernel_rfl) (fun _ _ _ h => h) (by rfl) (by intro w' hSw; (try dsimp only at hSw); go_simp; (try (with_reducible rfl))) (by assumption) ?_
                    simp only [Act.put, List.setIfInBounds_toArray, List.set_cons_zero, List.set_cons_succ]
                    refine held_take 1 110 (.int .i64 k) rfl rfl (by kernel_rfl) (by kernel_rfl) (by kernel_rfl) (fun _ _ _ h => h) (by rfl) (by intro w' hSw; (try dsimp only at hSw); go_simp; (try (with_reducible rfl))) (by assumption) ?_
                    simp only [Act.put, List.setIfInBounds_toArray, List.set_cons_zero, List.set_cons_succ]
                    refine held_take 2 111 (.pointer (some ⟨b, off + k * 11, none⟩)) rfl rfl (by kernel_rfl) (by kernel_rfl) (by kernel_rfl) (fun _ _ _ h => h) (by rfl) (by intro w' hSw; (try dsimp only at hSw); go_simp; (try (with_reducible rfl))) (by assumption) ?_
                    simp only [Act.put, List.setIfInBounds_toArray, List.set_cons_zero, List.set_cons_succ]
                    refine held_take 3 112 (.pointer (some ⟨b, off + k * 11, none⟩)) rfl rfl (by kernel_rfl) (by kernel_rfl) (by kernel_rfl) (fun _ _ _ h => h) (by rfl) (by intro w' hSw; (try dsimp only at hSw); go_simp; (try (with_reducible rfl))) (by assumption) ?_
                    simp only [Act.put, List.setIfInBounds_toArray, List.set_cons_zero, List.set_cons_succ]
                    refine held_take 4 113 (.string y.id) rfl rfl (by kernel_rfl) (by kernel_rfl) (by kernel_rfl) (fun _ _ _ h => h) (by rfl) (by intro w' hSw; (try dsimp only at hSw); go_simp; (try (with_reducible rfl))) (by assumption) ?_
                    simp only [Act.put, List.setIfInBounds_toArray, List.set_cons_zero, List.set_cons_succ]
                    refine held_take 5 114 (.pointer (some ⟨w5.heap.size, 2, none⟩)) rfl rfl (by kernel_rfl) (by kernel_rfl) (by kernel_rfl) (fun _ _ _ h => h) (by rfl) (by intro w' hSw; (try dsimp only at hSw); go_simp; (try (with_reducible rfl))) (by assumption) ?_
                    simp only [Act.put, List.setIfInBounds_toArray, List.set_cons_zero, List.set_cons_succ]
                    refine held_take 6 115 (.slice (some ⟨bx, ox, none⟩) O.length cx) rfl rfl (by kernel_rfl) (by kernel_rfl) (by kernel_rfl) (fun _ _ _ h => h) (by rfl) (by intro w' hSw; (try dsimp only at hSw); go_simp; (try (with_reducible rfl))) (by assumption) ?_
                    simp only [Act.put, List.setIfInBounds_toArray, List.set_cons_zero, List.set_cons_succ]
                    refine held_take 7 116 (.int .i64 i) rfl rfl (by kernel_rfl) (by kernel_rfl) (by kernel_rfl) (fun _ _ _ h => h) (by rfl) (by intro w' hSw; (try dsimp only at hSw); go_simp; (try (with_reducible rfl))) (by assumption) ?_
                    simp only [Act.put, List.setIfInBounds_toArray, List.set_cons_zero, List.set_cons_succ]
                    refine held_take 8 117 (.pointer (some ⟨bx, ox + i, none⟩)) rfl rfl (by kernel_rfl) (by kernel_rfl) (by kernel_rfl) (fun _ _ _ h => h) (by rfl) (by intro w' hSw; (try dsimp only at hSw); go_simp; (try (with_reducible rfl))) (by assumption) ?_
                    simp only [Act.put, List.setIfInBounds_toArray, List.set_cons_zero, List.set_cons_succ]
                    refine held_take 9 118 (.string s) rfl rfl (by kernel_rfl) (by kernel_rfl) (by kernel_rfl) (fun _ _ _ h => h) (by rfl) (by intro w' hSw; (try dsimp only at hSw); go_simp; (try (with_reducible rfl))) (by assumption) ?_
                    simp only [Act.put, List.setIfInBounds_toArray, List.set_cons_zero, List.set_cons_succ]
                    refine held_take 10 119 (.bool true) rfl rfl (by kernel_rfl) (by kernel_rfl) (by kernel_rfl) (fun _ _ _ h => h) (by rfl) (by intro w' hSw; (try dsimp only at hSw); go_simp; (first | done | with_reducible rfl | (have hh := HE.out; simpa using hh))) (by assumption) ?_
                    simp only [Act.put, List.setIfInBounds_toArray, List.set_cons_zero, List.set_cons_succ]
                    refine wpAnyH_done (by kernel_rfl) ?_ _
                    clear hHeld
                    go_wp2_with fail
                    have HQB := Lib.hid HQB.out.drew
                    have HQd := Lib.hid (HQ0.out.below HQB.out)
                    have HRd := Lib.hid (HRP0.out.below HQB.out)
                    have HSd := Lib.hid (HS0.out.below HQB.out)
                    refine wp_region_held_drew (S := (fun w' => w'.cell? ⟨w.heap.size, 3, none⟩ = some (.int .i64 f.room.a) ∧ w'.cell? ⟨w.heap.size, 4, none⟩ = some (.int .i64 f.room.b) ∧ w'.cell? ⟨w.heap.size, 5, none⟩ = some (.int .i64 f.room.c) ∧ w'.cell? ⟨w.heap.size + 1 + 1, 0, none⟩ = some (.string p.id) ∧ w'.cell? ⟨w.heap.size + 1 + 1, 1, none⟩ = some (.int .i64 p.prio) ∧ w'.cell? ⟨w.heap.size + 1 + 1, 2, none⟩ = some (.bool p.crit) ∧ w'.cell? ⟨w.heap.size + 1 + 1, 3, none⟩ = some (.int .i64 p.q0) ∧ w'.cell? ⟨w.heap.size + 1 + 1, 4, none⟩ = some (.int .i64 p.q1) ∧ w'.cell? ⟨w.heap.size + 1 + 1, 5, none⟩ = some (.int .i64 p.q2) ∧ w'.cell? ⟨w.heap.size + 1 + 1, 6, none⟩ = some (.int .i64 p.l0) ∧ w'.cell? ⟨w.heap.size + 1 + 1, 7, none⟩ = some (.int .i64 p.l1) ∧ w'.cell? ⟨w.heap.size + 1 + 1, 8, none⟩ = some (.int .i64 p.l2) ∧ w'.cell? ⟨w.heap.size + 1 + 1, 9, none⟩ = some (.string p.image) ∧ w'.cell? ⟨w.heap.size + 1 + 1, 10, none⟩ = some (.int .i64 p.size) ∧ w'.cell? ⟨b, off + k * 11, none⟩ = some (.string y.id) ∧ w'.cell? ⟨b, off + k * 11 + 1, none⟩ = some (.int .i64 y.prio) ∧ w'.cell? ⟨b, off + k * 11 + 2, none⟩ = some (.bool y.crit) ∧ w'.cell? ⟨b, off + k * 11 + 3, none⟩ = some (.int .i64 y.q0) ∧ w'.cell? ⟨b, off + k * 11 + 4, none⟩ = some (.int .i64 y.q1) ∧ w'.cell? ⟨b, off + k * 11 + 5, none⟩ = some (.int .i64 y.q2) ∧ w'.cell? ⟨b, off + k * 11 + 6, none⟩ = some (.int .i64 y.l0) ∧ w'.cell? ⟨b, off + k * 11 + 7, none⟩ = some (.int .i64 y.l1) ∧ w'.cell? ⟨b, off + k * 11 + 8, none⟩ = some (.int .i64 y.l2) ∧ w'.cell? ⟨b, off + k * 11 + 9, none⟩ = some (.string y.image) ∧ w'.cell? ⟨b, off + k * 11 + 10, none⟩ = some (.int .i64 y.size))) (by kernel_rfl) (acCells3 HQd.out HRd.out HYK.out) (fun hHeld => ?_)
                    generalize hwd : World.drew _ = wd0 at HQB HQd HRd HSd hHeld ⊢
                    clear hwd
                    refine held_take 0 120 (.agg #[.string p.id, .int .i64 p.prio, .bool p.crit, .int .i64 p.q0, .int .i64 p.q1, .int .i64 p.q2, .int .i64 p.l0, .int .i64 p.l1, .int .i64 p.l2, .string p.image, .int .i64 p.size]) rfl rfl (by kernel_rfl) (by kernel_rfl) (by kernel_rfl) (fun _ _ _ h => h) (by rfl) (by intro w' hSw; (try dsimp only at hSw); go_simp; (try (with_reducible rfl))) (by assumption) ?_
                    simp only [Act.put, List.setIfInBounds_toArray, List.set_cons_zero, List.set_cons_succ]
                    refine held_take 1 121 (.slice (some ⟨b, off, none⟩) (podsD l).length c6) rfl rfl (by kernel_rfl) (by kernel_rfl) (by kernel_rfl) (fun _ _ _ h => h) (by rfl) (by intro w' hSw; (try dsimp only at hSw); go_simp; (try (with_reducible rfl))) (by assumption) ?_
                    simp only [Act.put, List.setIfInBounds_toArray, List.set_cons_zero, List.set_cons_succ]
                    refine held_take 2 122 (.int .i64 k) rfl rfl (by kernel_rfl) (by kernel_rfl) (by kernel_rfl) (fun _ _ _ h => h) (by rfl) (by intro w' hSw; (try dsimp only at hSw); go_simp; (try (with_reducible rfl))) (by assumption) ?_
                    simp only [Act.put, List.setIfInBounds_toArray, List.set_cons_zero, List.set_cons_succ]
                    refine held_take 3 123 (.pointer (some ⟨b, off + k * 11, none⟩)) rfl rfl (by kernel_rfl) (by kernel_rfl) (by kernel_rfl) (fun _ _ _ h => h) (by rfl) (by intro w' hSw; (try dsimp only at hSw); go_simp; (try (with_reducible rfl))) (by assumption) ?_
                    simp only [Act.put, List.setIfInBounds_toArray, List.set_cons_zero, List.set_cons_succ]
                    refine held_take 4 124 (.agg #[.string y.id, .int .i64 y.prio, .bool y.crit, .int .i64 y.q0, .int .i64 y.q1, .int .i64 y.q2, .int .i64 y.l0, .int .i64 y.l1, .int .i64 y.l2, .string y.image, .int .i64 y.size]) rfl rfl (by kernel_rfl) (by kernel_rfl) (by kernel_rfl) (fun _ _ _ h => h) (by rfl) (by intro w' hSw; (try dsimp only at hSw); go_simp; (try (with_reducible rfl))) (by assumption) ?_
                    simp only [Act.put, List.setIfInBounds_toArray, List.set_cons_zero, List.set_cons_succ]
                    refine held_call 5 125 rfl rfl (by kernel_rfl) (by rfl) (fun K hK => ?_)
                    go_simp
                    go_at_call 17; with_reducible refine (refVmayV HMY.out _).mono ?_; rintro e wd ⟨rfl, hb⟩
                    have HQB := Lib.hid (below_rV HQB.out hb)
                    have HQd := Lib.hid (HQd.out.below hb)
                    have HRd := Lib.hid (HRd.out.below hb)
                    have HSd := Lib.hid (HSd.out.below hb)
                    have HQ := HQd
                    have HRi := HRd
                    clear hb
                    refine hK _ _ (acCells3 HQ.out HRi.out HYK.out) ?_
                    have hHeld := (show wd.cell? ⟨w.heap.size, 3, none⟩ = some (.int .i64 f.room.a) ∧ wd.cell? ⟨w.heap.size, 4, none⟩ = some (.int .i64 f.room.b) ∧ wd.cell? ⟨w.heap.size, 5, none⟩ = some (.int .i64 f.room.c) ∧ wd.cell? ⟨w.heap.size + 1 + 1, 0, none⟩ = some (.string p.id) ∧ wd.cell? ⟨w.heap.size + 1 + 1, 1, none⟩ = some (.int .i64 p.prio) ∧ wd.cell? ⟨w.heap.size + 1 + 1, 2, none⟩ = some (.bool p.crit) ∧ wd.cell? ⟨w.heap.size + 1 + 1, 3, none⟩ = some (.int .i64 p.q0) ∧ wd.cell? ⟨w.heap.size + 1 + 1, 4, none⟩ = some (.int .i64 p.q1) ∧ wd.cell? ⟨w.heap.size + 1 + 1, 5, none⟩ = some (.int .i64 p.q2) ∧ wd.cell? ⟨w.heap.size + 1 + 1, 6, none⟩ = some (.int .i64 p.l0) ∧ wd.cell? ⟨w.heap.size + 1 + 1, 7, none⟩ = some (.int .i64 p.l1) ∧ wd.cell? ⟨w.heap.size + 1 + 1, 8, none⟩ = some (.int .i64 p.l2) ∧ wd.cell? ⟨w.heap.size + 1 + 1, 9, none⟩ = some (.string p.image) ∧ wd.cell? ⟨w.heap.size + 1 + 1, 10, none⟩ = some (.int .i64 p.size) ∧ wd.cell? ⟨b, off + k * 11, none⟩ = some (.string y.id) ∧ wd.cell? ⟨b, off + k * 11 + 1, none⟩ = some (.int .i64 y.prio) ∧ wd.cell? ⟨b, off + k * 11 + 2, none⟩ = some (.bool y.crit) ∧ wd.cell? ⟨b, off + k * 11 + 3, none⟩ = some (.int .i64 y.q0) ∧ wd.cell? ⟨b, off + k * 11 + 4, none⟩ = some (.int .i64 y.q1) ∧ wd.cell? ⟨b, off + k * 11 + 5, none⟩ = some (.int .i64 y.q2) ∧ wd.cell? ⟨b, off + k * 11 + 6, none⟩ = some (.int .i64 y.l0) ∧ wd.cell? ⟨b, off + k * 11 + 7, none⟩ = some (.int .i64 y.l1) ∧ wd.cell? ⟨b, off + k * 11 + 8, none⟩ = some (.int .i64 y.l2) ∧ wd.cell? ⟨b, off + k * 11 + 9, none⟩ = some (.string y.image) ∧ wd.cell? ⟨b, off + k * 11 + 10, none⟩ = some (.int .i64 y.size) from acCells3 HQ.out HRi.out HYK.out)
                    clear hK K
                    simp only [Act.put, List.setIfInBounds_toArray, List.set_cons_zero, List.set_cons_succ]
                    have hb0 : Below wd.heap.size wd wd := Below.refl _ _
                    have HB := Lib.hid hb0
                    clear hb0
                    refine held_take 6 126 (.bool true) rfl rfl (by kernel_rfl) (by kernel_rfl) (by kernel_rfl) (fun _ _ _ h => h) (by rfl) (by intro w' hSw; (try dsimp only at hSw); go_simp; (try (with_reducible rfl))) (by assumption) ?_
                    simp only [Act.put, List.setIfInBounds_toArray, List.set_cons_zero, List.set_cons_succ]
                    refine held_take 7 127 (.pointer (some ⟨w.heap.size, 3, none⟩)) rfl rfl (by kernel_rfl) (by kernel_rfl) (by kernel_rfl) (fun _ _ _ h => h) (by rfl) (by intro w' hSw; (try dsimp only at hSw); go_simp; (try (with_reducible rfl))) (by assumption) ?_
                    simp only [Act.put, List.setIfInBounds_toArray, List.set_cons_zero, List.set_cons_succ]
                    refine held_take 8 128 (.agg #[.int .i64 f.room.a, .int .i64 f.room.b, .int .i64 f.room.c]) rfl rfl (by kernel_rfl) (by kernel_rfl) (by kernel_rfl) (fun _ _ _ h => h) (by rfl) (by intro w' hSw; (try dsimp only at hSw); go_simp; (try (with_reducible rfl))) (by assumption) ?_
                    simp only [Act.put, List.setIfInBounds_toArray, List.set_cons_zero, List.set_cons_succ]
                    refine held_take 10 130 (.slice As ST.length cs) rfl rfl (by kernel_rfl) (by kernel_rfl) (by kernel_rfl) (fun _ _ _ h => h) (by rfl) (by intro w' hSw; (try dsimp only at hSw); go_simp; (try (with_reducible rfl))) (by assumption) ?_
                    simp only [Act.put, List.setIfInBounds_toArray, List.set_cons_zero, List.set_cons_succ]
                    refine held_take 12 132 (.slice (some ⟨b, off, none⟩) (podsD l).length c6) rfl rfl (by kernel_rfl) (by kernel_rfl) (by kernel_rfl) (fun _ _ _ h => h) (by rfl) (by intro w' hSw; (try dsimp only at hSw); go_simp; (try (with_reducible rfl))) (by assumption) ?_
                    simp only [Act.put, List.setIfInBounds_toArray, List.set_cons_zero, List.set_cons_succ]
                    refine held_take 13 133 (.int .i64 k) rfl rfl (by kernel_rfl) (by kernel_rfl) (by kernel_rfl) (fun _ _ _ h => h) (by rfl) (by intro w' hSw; (try dsimp only at hSw); go_simp; (try (with_reducible rfl))) (by assumption) ?_
                    simp only [Act.put, List.setIfInBounds_toArray, List.set_cons_zero, List.set_cons_succ]
                    refine held_take 14 134 (.pointer (some ⟨b, off + k * 11, none⟩)) rfl rfl (by kernel_rfl) (by kernel_rfl) (by kernel_rfl) (fun _ _ _ h => h) (by rfl) (by intro w' hSw; (try dsimp only at hSw); go_simp; (try (with_reducible rfl))) (by assumption) ?_
                    simp only [Act.put, List.setIfInBounds_toArray, List.set_cons_zero, List.set_cons_succ]
                    refine held_take 15 135 (.agg #[.string y.id, .int .i64 y.prio, .bool y.crit, .int .i64 y.q0, .int .i64 y.q1, .int .i64 y.q2, .int .i64 y.l0, .int .i64 y.l1, .int .i64 y.l2, .string y.image, .int .i64 y.size]) rfl rfl (by kernel_rfl) (by kernel_rfl) (by kernel_rfl) (fun _ _ _ h => h) (by rfl) (by intro w' hSw; (try dsimp only at hSw); go_simp; (try (with_reducible rfl))) (by assumption) ?_
                    simp only [Act.put, List.setIfInBounds_toArray, List.set_cons_zero, List.set_cons_succ]
                    refine held_twoD 9 16 129 136 rfl rfl rfl rfl (by kernel_rfl) (by rfl) (by rfl) (fun K hK => ?_) (fun K hK => ?_)
                    · go_simp
                      have how := Own.made (wd) wd.heap.size 29 encP [] #[] rfl HB.out.size (by simp)
                      have HOW := Lib.hid how
                      clear how
                      have HB := Lib.hid (HB.out.alloc HB.out.size (.cells #[] 29))
                      have HQ := Lib.hid (HQd.out.below HB.out)
                      have HRi := Lib.hid (HRd.out.below HB.out)
                      refine hK _ _ (acCells3 HQ.out HRi.out HYK.out) ?_
                      have hHeld := (show ((wd).alloc (.cells #[] 29)).cell? ⟨w.heap.size, 3, none⟩ = some (.int .i64 f.room.a) ∧ ((wd).alloc (.cells #[] 29)).cell? ⟨w.heap.size, 4, none⟩ = some (.int .i64 f.room.b) ∧ ((wd).alloc (.cells #[] 29)).cell? ⟨w.heap.size, 5, none⟩ = some (.int .i64 f.room.c) ∧ ((wd).alloc (.cells #[] 29)).cell? ⟨w.heap.size + 1 + 1, 0, none⟩ = some (.string p.id) ∧ ((wd).alloc (.cells #[] 29)).cell? ⟨w.heap.size + 1 + 1, 1, none⟩ = some (.int .i64 p.prio) ∧ ((wd).alloc (.cells #[] 29)).cell? ⟨w.heap.size + 1 + 1, 2, none⟩ = some (.bool p.crit) ∧ ((wd).alloc (.cells #[] 29)).cell? ⟨w.heap.size + 1 + 1, 3, none⟩ = some (.int .i64 p.q0) ∧ ((wd).alloc (.cells #[] 29)).cell? ⟨w.heap.size + 1 + 1, 4, none⟩ = some (.int .i64 p.q1) ∧ ((wd).alloc (.cells #[] 29)).cell? ⟨w.heap.size + 1 + 1, 5, none⟩ = some (.int .i64 p.q2) ∧ ((wd).alloc (.cells #[] 29)).cell? ⟨w.heap.size + 1 + 1, 6, none⟩ = some (.int .i64 p.l0) ∧ ((wd).alloc (.cells #[] 29)).cell? ⟨w.heap.size + 1 + 1, 7, none⟩ = some (.int .i64 p.l1) ∧ ((wd).alloc (.cells #[] 29)).cell? ⟨w.heap.size + 1 + 1, 8, none⟩ = some (.int .i64 p.l2) ∧ ((wd).alloc (.cells #[] 29)).cell? ⟨w.heap.size + 1 + 1, 9, none⟩ = some (.string p.image) ∧ ((wd).alloc (.cells #[] 29)).cell? ⟨w.heap.size + 1 + 1, 10, none⟩ = some (.int .i64 p.size) ∧ ((wd).alloc (.cells #[] 29)).cell? ⟨b, off + k * 11, none⟩ = some (.string y.id) ∧ ((wd).alloc (.cells #[] 29)).cell? ⟨b, off + k * 11 + 1, none⟩ = some (.int .i64 y.prio) ∧ ((wd).alloc (.cells #[] 29)).cell? ⟨b, off + k * 11 + 2, none⟩ = some (.bool y.crit) ∧ ((wd).alloc (.cells #[] 29)).cell? ⟨b, off + k * 11 + 3, none⟩ = some (.int .i64 y.q0) ∧ ((wd).alloc (.cells #[] 29)).cell? ⟨b, off + k * 11 + 4, none⟩ = some (.int .i64 y.q1) ∧ ((wd).alloc (.cells #[] 29)).cell? ⟨b, off + k * 11 + 5, none⟩ = some (.int .i64 y.q2) ∧ ((wd).alloc (.cells #[] 29)).cell? ⟨b, off + k * 11 + 6, none⟩ = some (.int .i64 y.l0) ∧ ((wd).alloc (.cells #[] 29)).cell? ⟨b, off + k * 11 + 7, none⟩ = some (.int .i64 y.l1) ∧ ((wd).alloc (.cells #[] 29)).cell? ⟨b, off + k * 11 + 8, none⟩ = some (.int .i64 y.l2) ∧ ((wd).alloc (.cells #[] 29)).cell? ⟨b, off + k * 11 + 9, none⟩ = some (.string y.image) ∧ ((wd).alloc (.cells #[] 29)).cell? ⟨b, off + k * 11 + 10, none⟩ = some (.int .i64 y.size) from acCells3 HQ.out HRi.out HYK.out)
                      clear hK K
                      simp only [Act.put, List.setIfInBounds_toArray, List.set_cons_zero, List.set_cons_succ]
                      refine held_twoD 11 16 131 136 rfl rfl rfl rfl (by kernel_rfl) (by rfl) (by rfl) (fun K hK => ?_) (fun K hK => ?_)
                      · refine wp_app (wd.alloc (.cells #[] 29)) elemP encP (.tmp 129) (.tmp 130) rfl wd.heap.size _ [] (by simp [Act.eval]) HOW.out As ST cs (by simp [Act.eval]) (HSd.out.below (HB.out.mono (by simp))) (by simp; omega) (by simp; omega) HB.out.size ?_
                        intro A5 c5 w5 ho hg _
                        have hb5 := HOW.out.belowGrown HB.out hg (Nat.le_refl _) HB.out.size
                        have how : Own w5 wd.heap.size 29 encP (.slice A5 (ST).length c5) ST := by simpa using ho
                        have HOW := Lib.hid how
                        have HB := Lib.hid hb5
                        clear ho how hg hb5
                        have HQ := Lib.hid (HQd.out.below HB.out)
                        have HRi := Lib.hid (HRd.out.below HB.out)
                        simp only [List.length_nil, Nat.zero_add]
                        refine hK _ _ (acCells3 HQ.out HRi.out HYK.out) ?_
                        have hHeld := (show w5.cell? ⟨w.heap.size, 3, none⟩ = some (.int .i64 f.room.a) ∧ w5.cell? ⟨w.heap.size, 4, none⟩ = some (.int .i64 f.room.b) ∧ w5.cell? ⟨w.heap.size, 5, none⟩ = some (.int .i64 f.room.c) ∧ w5.cell? ⟨w.heap.size + 1 + 1, 0, none⟩ = some (.string p.id) ∧ w5.cell? ⟨w.heap.size + 1 + 1, 1, none⟩ = some (.int .i64 p.prio) ∧ w5.cell? ⟨w.heap.size + 1 + 1, 2, none⟩ = some (.bool p.crit) ∧ w5.cell? ⟨w.heap.size + 1 + 1, 3, none⟩ = some (.int .i64 p.q0) ∧ w5.cell? ⟨w.heap.size + 1 + 1, 4, none⟩ = some (.int .i64 p.q1) ∧ w5.cell? ⟨w.heap.size + 1 + 1, 5, none⟩ = some (.int .i64 p.q2) ∧ w5.cell? ⟨w.heap.size + 1 + 1, 6, none⟩ = some (.int .i64 p.l0) ∧ w5.cell? ⟨w.heap.size + 1 + 1, 7, none⟩ = some (.int .i64 p.l1) ∧ w5.cell? ⟨w.heap.size + 1 + 1, 8, none⟩ = some (.int .i64 p.l2) ∧ w5.cell? ⟨w.heap.size + 1 + 1, 9, none⟩ = some (.string p.image) ∧ w5.cell? ⟨w.heap.size + 1 + 1, 10, none⟩ = some (.int .i64 p.size) ∧ w5.cell? ⟨b, off + k * 11, none⟩ = some (.string y.id) ∧ w5.cell? ⟨b, off + k * 11 + 1, none⟩ = some (.int .i64 y.prio) ∧ w5.cell? ⟨b, off + k * 11 + 2, none⟩ = some (.bool y.crit) ∧ w5.cell? ⟨b, off + k * 11 + 3, none⟩ = some (.int .i64 y.q0) ∧ w5.cell? ⟨b, off + k * 11 + 4, none⟩ = some (.int .i64 y.q1) ∧ w5.cell? ⟨b, off + k * 11 + 5, none⟩ = some (.int .i64 y.q2) ∧ w5.cell? ⟨b, off + k * 11 + 6, none⟩ = some (.int .i64 y.l0) ∧ w5.cell? ⟨b, off + k * 11 + 7, none⟩ = some (.int .i64 y.l1) ∧ w5.cell? ⟨b, off + k * 11 + 8, none⟩ = some (.int .i64 y.l2) ∧ w5.cell? ⟨b, off + k * 11 + 9, none⟩ = some (.string y.image) ∧ w5.cell? ⟨b, off + k * 11 + 10, none⟩ = some (.int .i64 y.size) from acCells3 HQ.out HRi.out HYK.out)
                        clear hK K
                        simp only [Act.put, List.setIfInBounds_toArray, List.set_cons_zero, List.set_cons_succ]
                        refine held_call 16 136 rfl rfl (by kernel_rfl) (by rfl) (fun K hK => ?_)
                        go_simp
                        have hrw := Rds.made (w5) encP [y] 29 #[.string y.id, .int .i64 y.prio, .bool y.crit, .int .i64 y.q0, .int .i64 y.q1, .int .i64 y.q2, .int .i64 y.l0, .int .i64 y.l1, .int .i64 y.l2, .string y.image, .int .i64 y.size] (0, 0) rfl
                        have HOW := Lib.hid (HOW.out.alloc (.cells #[.string y.id, .int .i64 y.prio, .bool y.crit, .int .i64 y.q0, .int .i64 y.q1, .int .i64 y.q2, .int .i64 y.l0, .int .i64 y.l1, .int .i64 y.l2, .string y.image, .int .i64 y.size] 29))
                        have HRW := Lib.hid hrw
                        clear hrw
                        have HB := Lib.hid (HB.out.alloc HB.out.size (.cells #[.string y.id, .int .i64 y.prio, .bool y.crit, .int .i64 y.q0, .int .i64 y.q1, .int .i64 y.q2, .int .i64 y.l0, .int .i64 y.l1, .int .i64 y.l2, .string y.image, .int .i64 y.size] 29))
                        have HQ := Lib.hid (HQd.out.below HB.out)
                        have HRi := Lib.hid (HRd.out.below HB.out)
                        refine hK _ _ (acCells3 HQ.out HRi.out HYK.out) ?_
                        have hHeld := (show ((w5).alloc (.cells #[.string y.id, .int .i64 y.prio, .bool y.crit, .int .i64 y.q0, .int .i64 y.q1, .int .i64 y.q2, .int .i64 y.l0, .int .i64 y.l1, .int .i64 y.l2, .string y.image, .int .i64 y.size] 29)).cell? ⟨w.heap.size, 3, none⟩ = some (.int .i64 f.room.a) ∧ ((w5).alloc (.cells #[.string y.id, .int .i64 y.prio, .bool y.crit, .int .i64 y.q0, .int .i64 y.q1, .int .i64 y.q2, .int .i64 y.l0, .int .i64 y.l1, .int .i64 y.l2, .string y.image, .int .i64 y.size] 29)).cell? ⟨w.heap.size, 4, none⟩ = some (.int .i64 f.room.b) ∧ ((w5).alloc (.cells #[.string y.id, .int .i64 y.prio, .bool y.crit, .int .i64 y.q0, .int .i64 y.q1, .int .i64 y.q2, .int .i64 y.l0, .int .i64 y.l1, .int .i64 y.l2, .string y.image, .int .i64 y.size] 29)).cell? ⟨w.heap.size, 5, none⟩ = some (.int .i64 f.room.c) ∧ ((w5).alloc (.cells #[.string y.id, .int .i64 y.prio, .bool y.crit, .int .i64 y.q0, .int .i64 y.q1, .int .i64 y.q2, .int .i64 y.l0, .int .i64 y.l1, .int .i64 y.l2, .string y.image, .int .i64 y.size] 29)).cell? ⟨w.heap.size + 1 + 1, 0, none⟩ = some (.string p.id) ∧ ((w5).alloc (.cells #[.string y.id, .int .i64 y.prio, .bool y.crit, .int .i64 y.q0, .int .i64 y.q1, .int .i64 y.q2, .int .i64 y.l0, .int .i64 y.l1, .int .i64 y.l2, .string y.image, .int .i64 y.size] 29)).cell? ⟨w.heap.size + 1 + 1, 1, none⟩ = some (.int .i64 p.prio) ∧ ((w5).alloc (.cells #[.string y.id, .int .i64 y.prio, .bool y.crit, .int .i64 y.q0, .int .i64 y.q1, .int .i64 y.q2, .int .i64 y.l0, .int .i64 y.l1, .int .i64 y.l2, .string y.image, .int .i64 y.size] 29)).cell? ⟨w.heap.size + 1 + 1, 2, none⟩ = some (.bool p.crit) ∧ ((w5).alloc (.cells #[.string y.id, .int .i64 y.prio, .bool y.crit, .int .i64 y.q0, .int .i64 y.q1, .int .i64 y.q2, .int .i64 y.l0, .int .i64 y.l1, .int .i64 y.l2, .string y.image, .int .i64 y.size] 29)).cell? ⟨w.heap.size + 1 + 1, 3, none⟩ = some (.int .i64 p.q0) ∧ ((w5).alloc (.cells #[.string y.id, .int .i64 y.prio, .bool y.crit, .int .i64 y.q0, .int .i64 y.q1, .int .i64 y.q2, .int .i64 y.l0, .int .i64 y.l1, .int .i64 y.l2, .string y.image, .int .i64 y.size] 29)).cell? ⟨w.heap.size + 1 + 1, 4, none⟩ = some (.int .i64 p.q1) ∧ ((w5).alloc (.cells #[.string y.id, .int .i64 y.prio, .bool y.crit, .int .i64 y.q0, .int .i64 y.q1, .int .i64 y.q2, .int .i64 y.l0, .int .i64 y.l1, .int .i64 y.l2, .string y.image, .int .i64 y.size] 29)).cell? ⟨w.heap.size + 1 + 1, 5, none⟩ = some (.int .i64 p.q2) ∧ ((w5).alloc (.cells #[.string y.id, .int .i64 y.prio, .bool y.crit, .int .i64 y.q0, .int .i64 y.q1, .int .i64 y.q2, .int .i64 y.l0, .int .i64 y.l1, .int .i64 y.l2, .string y.image, .int .i64 y.size] 29)).cell? ⟨w.heap.size + 1 + 1, 6, none⟩ = some (.int .i64 p.l0) ∧ ((w5).alloc (.cells #[.string y.id, .int .i64 y.prio, .bool y.crit, .int .i64 y.q0, .int .i64 y.q1, .int .i64 y.q2, .int .i64 y.l0, .int .i64 y.l1, .int .i64 y.l2, .string y.image, .int .i64 y.size] 29)).cell? ⟨w.heap.size + 1 + 1, 7, none⟩ = some (.int .i64 p.l1) ∧ ((w5).alloc (.cells #[.string y.id, .int .i64 y.prio, .bool y.crit, .int .i64 y.q0, .int .i64 y.q1, .int .i64 y.q2, .int .i64 y.l0, .int .i64 y.l1, .int .i64 y.l2, .string y.image, .int .i64 y.size] 29)).cell? ⟨w.heap.size + 1 + 1, 8, none⟩ = some (.int .i64 p.l2) ∧ ((w5).alloc (.cells #[.string y.id, .int .i64 y.prio, .bool y.crit, .int .i64 y.q0, .int .i64 y.q1, .int .i64 y.q2, .int .i64 y.l0, .int .i64 y.l1, .int .i64 y.l2, .string y.image, .int .i64 y.size] 29)).cell? ⟨w.heap.size + 1 + 1, 9, none⟩ = some (.string p.image) ∧ ((w5).alloc (.cells #[.string y.id, .int .i64 y.prio, .bool y.crit, .int .i64 y.q0, .int .i64 y.q1, .int .i64 y.q2, .int .i64 y.l0, .int .i64 y.l1, .int .i64 y.l2, .string y.image, .int .i64 y.size] 29)).cell? ⟨w.heap.size + 1 + 1, 10, none⟩ = some (.int .i64 p.size) ∧ ((w5).alloc (.cells #[.string y.id, .int .i64 y.prio, .bool y.crit, .int .i64 y.q0, .int .i64 y.q1, .int .i64 y.q2, .int .i64 y.l0, .int .i64 y.l1, .int .i64 y.l2, .string y.image, .int .i64 y.size] 29)).cell? ⟨b, off + k * 11, none⟩ = some (.string y.id) ∧ ((w5).alloc (.cells #[.string y.id, .int .i64 y.prio, .bool y.crit, .int .i64 y.q0, .int .i64 y.q1, .int .i64 y.q2, .int .i64 y.l0, .int .i64 y.l1, .int .i64 y.l2, .string y.image, .int .i64 y.size] 29)).cell? ⟨b, off + k * 11 + 1, none⟩ = some (.int .i64 y.prio) ∧ ((w5).alloc (.cells #[.string y.id, .int .i64 y.prio, .bool y.crit, .int .i64 y.q0, .int .i64 y.q1, .int .i64 y.q2, .int .i64 y.l0, .int .i64 y.l1, .int .i64 y.l2, .string y.image, .int .i64 y.size] 29)).cell? ⟨b, off + k * 11 + 2, none⟩ = some (.bool y.crit) ∧ ((w5).alloc (.cells #[.string y.id, .int .i64 y.prio, .bool y.crit, .int .i64 y.q0, .int .i64 y.q1, .int .i64 y.q2, .int .i64 y.l0, .int .i64 y.l1, .int .i64 y.l2, .string y.image, .int .i64 y.size] 29)).cell? ⟨b, off + k * 11 + 3, none⟩ = some (.int .i64 y.q0) ∧ ((w5).alloc (.cells #[.string y.id, .int .i64 y.prio, .bool y.crit, .int .i64 y.q0, .int .i64 y.q1, .int .i64 y.q2, .int .i64 y.l0, .int .i64 y.l1, .int .i64 y.l2, .string y.image, .int .i64 y.size] 29)).cell? ⟨b, off + k * 11 + 4, none⟩ = some (.int .i64 y.q1) ∧ ((w5).alloc (.cells #[.string y.id, .int .i64 y.prio, .bool y.crit, .int .i64 y.q0, .int .i64 y.q1, .int .i64 y.q2, .int .i64 y.l0, .int .i64 y.l1, .int .i64 y.l2, .string y.image, .int .i64 y.size] 29)).cell? ⟨b, off + k * 11 + 5, none⟩ = some (.int .i64 y.q2) ∧ ((w5).alloc (.cells #[.string y.id, .int .i64 y.prio, .bool y.crit, .int .i64 y.q0, .int .i64 y.q1, .int .i64 y.q2, .int .i64 y.l0, .int .i64 y.l1, .int .i64 y.l2, .string y.image, .int .i64 y.size] 29)).cell? ⟨b, off + k * 11 + 6, none⟩ = some (.int .i64 y.l0) ∧ ((w5).alloc (.cells #[.string y.id, .int .i64 y.prio, .bool y.crit, .int .i64 y.q0, .int .i64 y.q1, .int .i64 y.q2, .int .i64 y.l0, .int .i64 y.l1, .int .i64 y.l2, .string y.image, .int .i64 y.size] 29)).cell? ⟨b, off + k * 11 + 7, none⟩ = some (.int .i64 y.l1) ∧ ((w5).alloc (.cells #[.string y.id, .int .i64 y.prio, .bool y.crit, .int .i64 y.q0, .int .i64 y.q1, .int .i64 y.q2, .int .i64 y.l0, .int .i64 y.l1, .int .i64 y.l2, .string y.image, .int .i64 y.size] 29)).cell? ⟨b, off + k * 11 + 8, none⟩ = some (.int .i64 y.l2) ∧ ((w5).alloc (.cells #[.string y.id, .int .i64 y.prio, .bool y.crit, .int .i64 y.q0, .int .i64 y.q1, .int .i64 y.q2, .int .i64 y.l0, .int .i64 y.l1, .int .i64 y.l2, .string y.image, .int .i64 y.size] 29)).cell? ⟨b, off + k * 11 + 9, none⟩ = some (.string y.image) ∧ ((w5).alloc (.cells #[.string y.id, .int .i64 y.prio, .bool y.crit, .int .i64 y.q0, .int .i64 y.q1, .int .i64 y.q2, .int .i64 y.l0, .int .i64 y.l1, .int .i64 y.l2, .string y.image, .int .i64 y.size] 29)).cell? ⟨b, off + k * 11 + 10, none⟩ = some (.int .i64 y.size) from acCells3 HQ.out HRi.out HYK.out)
                        clear hK K
                        simp only [Act.put, List.setIfInBounds_toArray, List.set_cons_zero, List.set_cons_succ]
                        refine held_call 17 137 rfl rfl (by kernel_rfl) (by rfl) (fun K hK => ?_)
                        refine wp_app (w5.alloc (.cells #[.string y.id, .int .i64 y.prio, .bool y.crit, .int .i64 y.q0, .int .i64 y.q1, .int .i64 y.q2, .int .i64 y.l0, .int .i64 y.l1, .int .i64 y.l2, .string y.image, .int .i64 y.size] 29)) elemP encP (.tmp 131) (.tmp 136) rfl wd.heap.size _ ST (by simp [Act.eval]) HOW.out _ [y] 1 (by simp [Act.eval]) HRW.out (by simp; omega) (by simp; omega) HB.out.size ?_
                        intro A7 c7 w7 ho hg _
                        have hb7 := HOW.out.belowGrown HB.out hg (Nat.le_refl _) HB.out.size
                        have HOW := Lib.hid ho
                        have HB := Lib.hid hb7
                        clear ho hg hb7
                        have HQ := Lib.hid (HQd.out.below HB.out)
                        have HRi := Lib.hid (HRd.out.below HB.out)
                        refine hK _ _ (acCells3 HQ.out HRi.out HYK.out) ?_
                        have hHeld := (show w7.cell? ⟨w.heap.size, 3, none⟩ = some (.int .i64 f.room.a) ∧ w7.cell? ⟨w.heap.size, 4, none⟩ = some (.int .i64 f.room.b) ∧ w7.cell? ⟨w.heap.size, 5, none⟩ = some (.int .i64 f.room.c) ∧ w7.cell? ⟨w.heap.size + 1 + 1, 0, none⟩ = some (.string p.id) ∧ w7.cell? ⟨w.heap.size + 1 + 1, 1, none⟩ = some (.int .i64 p.prio) ∧ w7.cell? ⟨w.heap.size + 1 + 1, 2, none⟩ = some (.bool p.crit) ∧ w7.cell? ⟨w.heap.size + 1 + 1, 3, none⟩ = some (.int .i64 p.q0) ∧ w7.cell? ⟨w.heap.size + 1 + 1, 4, none⟩ = some (.int .i64 p.q1) ∧ w7.cell? ⟨w.heap.size + 1 + 1, 5, none⟩ = some (.int .i64 p.q2) ∧ w7.cell? ⟨w.heap.size + 1 + 1, 6, none⟩ = some (.int .i64 p.l0) ∧ w7.cell? ⟨w.heap.size + 1 + 1, 7, none⟩ = some (.int .i64 p.l1) ∧ w7.cell? ⟨w.heap.size + 1 + 1, 8, none⟩ = some (.int .i64 p.l2) ∧ w7.cell? ⟨w.heap.size + 1 + 1, 9, none⟩ = some (.string p.image) ∧ w7.cell? ⟨w.heap.size + 1 + 1, 10, none⟩ = some (.int .i64 p.size) ∧ w7.cell? ⟨b, off + k * 11, none⟩ = some (.string y.id) ∧ w7.cell? ⟨b, off + k * 11 + 1, none⟩ = some (.int .i64 y.prio) ∧ w7.cell? ⟨b, off + k * 11 + 2, none⟩ = some (.bool y.crit) ∧ w7.cell? ⟨b, off + k * 11 + 3, none⟩ = some (.int .i64 y.q0) ∧ w7.cell? ⟨b, off + k * 11 + 4, none⟩ = some (.int .i64 y.q1) ∧ w7.cell? ⟨b, off + k * 11 + 5, none⟩ = some (.int .i64 y.q2) ∧ w7.cell? ⟨b, off + k * 11 + 6, none⟩ = some (.int .i64 y.l0) ∧ w7.cell? ⟨b, off + k * 11 + 7, none⟩ = some (.int .i64 y.l1) ∧ w7.cell? ⟨b, off + k * 11 + 8, none⟩ = some (.int .i64 y.l2) ∧ w7.cell? ⟨b, off + k * 11 + 9, none⟩ = some (.string y.image) ∧ w7.cell? ⟨b, off + k * 11 + 10, none⟩ = some (.int .i64 y.size) from acCells3 HQ.out HRi.out HYK.out)
                        clear hK K
                        simp only [Act.put, List.setIfInBounds_toArray, List.set_cons_zero, List.set_cons_succ]
                        refine held_call 18 138 rfl rfl (by kernel_rfl) (by rfl) (fun K hK => ?_)
                        go_simp
                        have HO7 := Lib.hid (show Rds w7 encP A7 (ST ++ [y]) from HOW.out.toRds)
                        go_at_call 15; with_reducible refine (withinV HFY.out (show ST.length + 1 = (ST ++ [y]).length by simp) HO7.out HYL.out HWY.out HROOM.out.1 HROOM.out.2.1 HROOM.out.2.2).mono ?_; rintro e w9 ⟨rfl, hb⟩
                        have HB := Lib.hid (below_rV HB.out hb)
                        have HQ := Lib.hid (HQd.out.below HB.out)
                        have HRi := Lib.hid (HRd.out.below HB.out)
                        clear hb
                        refine hK _ _ (acCells3 HQ.out HRi.out HYK.out) ?_
                        have hHeld := (show w9.cell? ⟨w.heap.size, 3, none⟩ = some (.int .i64 f.room.a) ∧ w9.cell? ⟨w.heap.size, 4, none⟩ = some (.int .i64 f.room.b) ∧ w9.cell? ⟨w.heap.size, 5, none⟩ = some (.int .i64 f.room.c) ∧ w9.cell? ⟨w.heap.size + 1 + 1, 0, none⟩ = some (.string p.id) ∧ w9.cell? ⟨w.heap.size + 1 + 1, 1, none⟩ = some (.int .i64 p.prio) ∧ w9.cell? ⟨w.heap.size + 1 + 1, 2, none⟩ = some (.bool p.crit) ∧ w9.cell? ⟨w.heap.size + 1 + 1, 3, none⟩ = some (.int .i64 p.q0) ∧ w9.cell? ⟨w.heap.size + 1 + 1, 4, none⟩ = some (.int .i64 p.q1) ∧ w9.cell? ⟨w.heap.size + 1 + 1, 5, none⟩ = some (.int .i64 p.q2) ∧ w9.cell? ⟨w.heap.size + 1 + 1, 6, none⟩ = some (.int .i64 p.l0) ∧ w9.cell? ⟨w.heap.size + 1 + 1, 7, none⟩ = some (.int .i64 p.l1) ∧ w9.cell? ⟨w.heap.size + 1 + 1, 8, none⟩ = some (.int .i64 p.l2) ∧ w9.cell? ⟨w.heap.size + 1 + 1, 9, none⟩ = some (.string p.image) ∧ w9.cell? ⟨w.heap.size + 1 + 1, 10, none⟩ = some (.int .i64 p.size) ∧ w9.cell? ⟨b, off + k * 11, none⟩ = some (.string y.id) ∧ w9.cell? ⟨b, off + k * 11 + 1, none⟩ = some (.int .i64 y.prio) ∧ w9.cell? ⟨b, off + k * 11 + 2, none⟩ = some (.bool y.crit) ∧ w9.cell? ⟨b, off + k * 11 + 3, none⟩ = some (.int .i64 y.q0) ∧ w9.cell? ⟨b, off + k * 11 + 4, none⟩ = some (.int .i64 y.q1) ∧ w9.cell? ⟨b, off + k * 11 + 5, none⟩ = some (.int .i64 y.q2) ∧ w9.cell? ⟨b, off + k * 11 + 6, none⟩ = some (.int .i64 y.l0) ∧ w9.cell? ⟨b, off + k * 11 + 7, none⟩ = some (.int .i64 y.l1) ∧ w9.cell? ⟨b, off + k * 11 + 8, none⟩ = some (.int .i64 y.l2) ∧ w9.cell? ⟨b, off + k * 11 + 9, none⟩ = some (.string y.image) ∧ w9.cell? ⟨b, off + k * 11 + 10, none⟩ = some (.int .i64 y.size) from acCells3 HQ.out HRi.out HYK.out)
                        clear hK K
                        simp only [Act.put, List.setIfInBounds_toArray, List.set_cons_zero, List.set_cons_succ]
                        refine held_take 19 139 (.bool true) rfl rfl (by kernel_rfl) (by kernel_rfl) (by kernel_rfl) (fun _ _ _ h => h) (by rfl) (by intro w' hSw; (try dsimp only at hSw); go_simp; (try (with_reducible rfl))) (by assumption) ?_
                        simp only [Act.put, List.setIfInBounds_toArray, List.set_cons_zero, List.set_cons_succ]
                        refine held_take 20 140 (.bool true) rfl rfl (by kernel_rfl) (by kernel_rfl) (by kernel_rfl) (fun _ _ _ h => h) (by rfl) (by intro w' hSw; (try dsimp only at hSw); go_simp; (try (with_reducible rfl))) (by assumption) ?_
                        simp only [Act.put, List.setIfInBounds_toArray, List.set_cons_zero, List.set_cons_succ]
                        refine held_take 21 15 (.bool true) rfl rfl (by kernel_rfl) (by kernel_rfl) (by kernel_rfl) (fun _ _ _ h => h) (by rfl) (by intro w' hSw; (try dsimp only at hSw); go_simp; (try (with_reducible rfl))) (by assumption) ?_
                        simp only [Act.put, List.setIfInBounds_toArray, List.set_cons_zero, List.set_cons_succ]
                        refine wpAnyH_done (by kernel_rfl) ?_ _
                        clear hHeld
                        go_wp2_with fail
                        go_roundw
                        case rel => exact ⟨k + 1, by omega, HN.out, by go_num, below_rV HQB.out HB.out⟩
                        case measure => simp [intOf]; omega
                      · go_simp
                        have hrw := Rds.made (wd.alloc (.cells #[] 29)) encP [y] 29 #[.string y.id, .int .i64 y.prio, .bool y.crit, .int .i64 y.q0, .int .i64 y.q1, .int .i64 y.q2, .int .i64 y.l0, .int .i64 y.l1, .int .i64 y.l2, .string y.image, .int .i64 y.size] (0, 0) rfl
                        rw [show (wd.alloc (.cells #[] 29)).heap.size = wd.heap.size + 1 from by simp] at hrw
                        have HOW := Lib.hid (HOW.out.alloc (.cells #[.string y.id, .int .i64 y.prio, .bool y.crit, .int .i64 y.q0, .int .i64 y.q1, .int .i64 y.q2, .int .i64 y.l0, .int .i64 y.l1, .int .i64 y.l2, .string y.image, .int .i64 y.size] 29))
                        have HRW := Lib.hid hrw
                        clear hrw
                        have HB := Lib.hid (HB.out.alloc HB.out.size (.cells #[.string y.id, .int .i64 y.prio, .bool y.crit, .int .i64 y.q0, .int .i64 y.q1, .int .i64 y.q2, .int .i64 y.l0, .int .i64 y.l1, .int .i64 y.l2, .string y.image, .int .i64 y.size] 29))
                        have HQ := Lib.hid (HQd.out.below HB.out)
                        have HRi := Lib.hid (HRd.out.below HB.out)
                        refine hK _ _ (acCells3 HQ.out HRi.out HYK.out) ?_
                        have hHeld := (show ((wd.alloc (.cells #[] 29)).alloc (.cells #[.string y.id, .int .i64 y.prio, .bool y.crit, .int .i64 y.q0, .int .i64 y.q1, .int .i64 y.q2, .int .i64 y.l0, .int .i64 y.l1, .int .i64 y.l2, .string y.image, .int .i64 y.size] 29)).cell? ⟨w.heap.size, 3, none⟩ = some (.int .i64 f.room.a) ∧ ((wd.alloc (.cells #[] 29)).alloc (.cells #[.string y.id, .int .i64 y.prio, .bool y.crit, .int .i64 y.q0, .int .i64 y.q1, .int .i64 y.q2, .int .i64 y.l0, .int .i64 y.l1, .int .i64 y.l2, .string y.image, .int .i64 y.size] 29)).cell? ⟨w.heap.size, 4, none⟩ = some (.int .i64 f.room.b) ∧ ((wd.alloc (.cells #[] 29)).alloc (.cells #[.string y.id, .int .i64 y.prio, .bool y.crit, .int .i64 y.q0, .int .i64 y.q1, .int .i64 y.q2, .int .i64 y.l0, .int .i64 y.l1, .int .i64 y.l2, .string y.image, .int .i64 y.size] 29)).cell? ⟨w.heap.size, 5, none⟩ = some (.int .i64 f.room.c) ∧ ((wd.alloc (.cells #[] 29)).alloc (.cells #[.string y.id, .int .i64 y.prio, .bool y.crit, .int .i64 y.q0, .int .i64 y.q1, .int .i64 y.q2, .int .i64 y.l0, .int .i64 y.l1, .int .i64 y.l2, .string y.image, .int .i64 y.size] 29)).cell? ⟨w.heap.size + 1 + 1, 0, none⟩ = some (.string p.id) ∧ ((wd.alloc (.cells #[] 29)).alloc (.cells #[.string y.id, .int .i64 y.prio, .bool y.crit, .int .i64 y.q0, .int .i64 y.q1, .int .i64 y.q2, .int .i64 y.l0, .int .i64 y.l1, .int .i64 y.l2, .string y.image, .int .i64 y.size] 29)).cell? ⟨w.heap.size + 1 + 1, 1, none⟩ = some (.int .i64 p.prio) ∧ ((wd.alloc (.cells #[] 29)).alloc (.cells #[.string y.id, .int .i64 y.prio, .bool y.crit, .int .i64 y.q0, .int .i64 y.q1, .int .i64 y.q2, .int .i64 y.l0, .int .i64 y.l1, .int .i64 y.l2, .string y.image, .int .i64 y.size] 29)).cell? ⟨w.heap.size + 1 + 1, 2, none⟩ = some (.bool p.crit) ∧ ((wd.alloc (.cells #[] 29)).alloc (.cells #[.string y.id, .int .i64 y.prio, .bool y.crit, .int .i64 y.q0, .int .i64 y.q1, .int .i64 y.q2, .int .i64 y.l0, .int .i64 y.l1, .int .i64 y.l2, .string y.image, .int .i64 y.size] 29)).cell? ⟨w.heap.size + 1 + 1, 3, none⟩ = some (.int .i64 p.q0) ∧ ((wd.alloc (.cells #[] 29)).alloc (.cells #[.string y.id, .int .i64 y.prio, .bool y.crit, .int .i64 y.q0, .int .i64 y.q1, .int .i64 y.q2, .int .i64 y.l0, .int .i64 y.l1, .int .i64 y.l2, .string y.image, .int .i64 y.size] 29)).cell? ⟨w.heap.size + 1 + 1, 4, none⟩ = some (.int .i64 p.q1) ∧ ((wd.alloc (.cells #[] 29)).alloc (.cells #[.string y.id, .int .i64 y.prio, .bool y.crit, .int .i64 y.q0, .int .i64 y.q1, .int .i64 y.q2, .int .i64 y.l0, .int .i64 y.l1, .int .i64 y.l2, .string y.image, .int .i64 y.size] 29)).cell? ⟨w.heap.size + 1 + 1, 5, none⟩ = some (.int .i64 p.q2) ∧ ((wd.alloc (.cells #[] 29)).alloc (.cells #[.string y.id, .int .i64 y.prio, .bool y.crit, .int .i64 y.q0, .int .i64 y.q1, .int .i64 y.q2, .int .i64 y.l0, .int .i64 y.l1, .int .i64 y.l2, .string y.image, .int .i64 y.size] 29)).cell? ⟨w.heap.size + 1 + 1, 6, none⟩ = some (.int .i64 p.l0) ∧ ((wd.alloc (.cells #[] 29)).alloc (.cells #[.string y.id, .int .i64 y.prio, .bool y.crit, .int .i64 y.q0, .int .i64 y.q1, .int .i64 y.q2, .int .i64 y.l0, .int .i64 y.l1, .int .i64 y.l2, .string y.image, .int .i64 y.size] 29)).cell? ⟨w.heap.size + 1 + 1, 7, none⟩ = some (.int .i64 p.l1) ∧ ((wd.alloc (.cells #[] 29)).alloc (.cells #[.string y.id, .int .i64 y.prio, .bool y.crit, .int .i64 y.q0, .int .i64 y.q1, .int .i64 y.q2, .int .i64 y.l0, .int .i64 y.l1, .int .i64 y.l2, .string y.image, .int .i64 y.size] 29)).cell? ⟨w.heap.size + 1 + 1, 8, none⟩ = some (.int .i64 p.l2) ∧ ((wd.alloc (.cells #[] 29)).alloc (.cells #[.string y.id, .int .i64 y.prio, .bool y.crit, .int .i64 y.q0, .int .i64 y.q1, .int .i64 y.q2, .int .i64 y.l0, .int .i64 y.l1, .int .i64 y.l2, .string y.image, .int .i64 y.size] 29)).cell? ⟨w.heap.size + 1 + 1, 9, none⟩ = some (.string p.image) ∧ ((wd.alloc (.cells #[] 29)).alloc (.cells #[.string y.id, .int .i64 y.prio, .bool y.crit, .int .i64 y.q0, .int .i64 y.q1, .int .i64 y.q2, .int .i64 y.l0, .int .i64 y.l1, .int .i64 y.l2, .string y.image, .int .i64 y.size] 29)).cell? ⟨w.heap.size + 1 + 1, 10, none⟩ = some (.int .i64 p.size) ∧ ((wd.alloc (.cells #[] 29)).alloc (.cells #[.string y.id, .int .i64 y.prio, .bool y.crit, .int .i64 y.q0, .int .i64 y.q1, .int .i64 y.q2, .int .i64 y.l0, .int .i64 y.l1, .int .i64 y.l2, .string y.image, .int .i64 y.size] 29)).cell? ⟨b, off + k * 11, none⟩ = some (.string y.id) ∧ ((wd.alloc (.cells #[] 29)).alloc (.cells #[.string y.id, .int .i64 y.prio, .bool y.crit, .int .i64 y.q0, .int .i64 y.q1, .int .i64 y.q2, .int .i64 y.l0, .int .i64 y.l1, .int .i64 y.l2, .string y.image, .int .i64 y.size] 29)).cell? ⟨b, off + k * 11 + 1, none⟩ = some (.int .i64 y.prio) ∧ ((wd.alloc (.cells #[] 29)).alloc (.cells #[.string y.id, .int .i64 y.prio, .bool y.crit, .int .i64 y.q0, .int .i64 y.q1, .int .i64 y.q2, .int .i64 y.l0, .int .i64 y.l1, .int .i64 y.l2, .string y.image, .int .i64 y.size] 29)).cell? ⟨b, off + k * 11 + 2, none⟩ = some (.bool y.crit) ∧ ((wd.alloc (.cells #[] 29)).alloc (.cells #[.string y.id, .int .i64 y.prio, .bool y.crit, .int .i64 y.q0, .int .i64 y.q1, .int .i64 y.q2, .int .i64 y.l0, .int .i64 y.l1, .int .i64 y.l2, .string y.image, .int .i64 y.size] 29)).cell? ⟨b, off + k * 11 + 3, none⟩ = some (.int .i64 y.q0) ∧ ((wd.alloc (.cells #[] 29)).alloc (.cells #[.string y.id, .int .i64 y.prio, .bool y.crit, .int .i64 y.q0, .int .i64 y.q1, .int .i64 y.q2, .int .i64 y.l0, .int .i64 y.l1, .int .i64 y.l2, .string y.image, .int .i64 y.size] 29)).cell? ⟨b, off + k * 11 + 4, none⟩ = some (.int .i64 y.q1) ∧ ((wd.alloc (.cells #[] 29)).alloc (.cells #[.string y.id, .int .i64 y.prio, .bool y.crit, .int .i64 y.q0, .int .i64 y.q1, .int .i64 y.q2, .int .i64 y.l0, .int .i64 y.l1, .int .i64 y.l2, .string y.image, .int .i64 y.size] 29)).cell? ⟨b, off + k * 11 + 5, none⟩ = some (.int .i64 y.q2) ∧ ((wd.alloc (.cells #[] 29)).alloc (.cells #[.string y.id, .int .i64 y.prio, .bool y.crit, .int .i64 y.q0, .int .i64 y.q1, .int .i64 y.q2, .int .i64 y.l0, .int .i64 y.l1, .int .i64 y.l2, .string y.image, .int .i64 y.size] 29)).cell? ⟨b, off + k * 11 + 6, none⟩ = some (.int .i64 y.l0) ∧ ((wd.alloc (.cells #[] 29)).alloc (.cells #[.string y.id, .int .i64 y.prio, .bool y.crit, .int .i64 y.q0, .int .i64 y.q1, .int .i64 y.q2, .int .i64 y.l0, .int .i64 y.l1, .int .i64 y.l2, .string y.image, .int .i64 y.size] 29)).cell? ⟨b, off + k * 11 + 7, none⟩ = some (.int .i64 y.l1) ∧ ((wd.alloc (.cells #[] 29)).alloc (.cells #[.string y.id, .int .i64 y.prio, .bool y.crit, .int .i64 y.q0, .int .i64 y.q1, .int .i64 y.q2, .int .i64 y.l0, .int .i64 y.l1, .int .i64 y.l2, .string y.image, .int .i64 y.size] 29)).cell? ⟨b, off + k * 11 + 8, none⟩ = some (.int .i64 y.l2) ∧ ((wd.alloc (.cells #[] 29)).alloc (.cells #[.string y.id, .int .i64 y.prio, .bool y.crit, .int .i64 y.q0, .int .i64 y.q1, .int .i64 y.q2, .int .i64 y.l0, .int .i64 y.l1, .int .i64 y.l2, .string y.image, .int .i64 y.size] 29)).cell? ⟨b, off + k * 11 + 9, none⟩ = some (.string y.image) ∧ ((wd.alloc (.cells #[] 29)).alloc (.cells #[.string y.id, .int .i64 y.prio, .bool y.crit, .int .i64 y.q0, .int .i64 y.q1, .int .i64 y.q2, .int .i64 y.l0, .int .i64 y.l1, .int .i64 y.l2, .string y.image, .int .i64 y.size] 29)).cell? ⟨b, off + k * 11 + 10, none⟩ = some (.int .i64 y.size) from acCells3 HQ.out HRi.out HYK.out)
                        clear hK K
                        simp only [Act.put, List.setIfInBounds_toArray, List.set_cons_zero, List.set_cons_succ]
                        refine held_call 11 131 rfl rfl (by kernel_rfl) (by rfl) (fun K hK => ?_)
                        refine wp_app ((wd.alloc (.cells #[] 29)).alloc (.cells #[.string y.id, .int .i64 y.prio, .bool y.crit, .int .i64 y.q0, .int .i64 y.q1, .int .i64 y.q2, .int .i64 y.l0, .int .i64 y.l1, .int .i64 y.l2, .string y.image, .int .i64 y.size] 29)) elemP encP (.tmp 129) (.tmp 130) rfl wd.heap.size _ [] (by simp [Act.eval]) HOW.out As ST cs (by simp [Act.eval]) (HSd.out.below (HB.out.mono (by simp))) (by simp; omega) (by simp; omega) HB.out.size ?_
                        intro A5 c5 w5 ho hg _
                        have hb5 := HOW.out.belowGrown HB.out hg (Nat.le_refl _) HB.out.size
                        have HRW := Lib.hid (HRW.out.grownN hg (by simp [Value.ownBlock]))
                        have how : Own w5 wd.heap.size 29 encP (.slice A5 (ST).length c5) ST := by simpa using ho
                        have HOW := Lib.hid how
                        have HB := Lib.hid hb5
                        clear ho how hg hb5
                        have HQ := Lib.hid (HQd.out.below HB.out)
                        have HRi := Lib.hid (HRd.out.below HB.out)
                        simp only [List.length_nil, Nat.zero_add]
                        refine hK _ _ (acCells3 HQ.out HRi.out HYK.out) ?_
                        have hHeld := (show w5.cell? ⟨w.heap.size, 3, none⟩ = some (.int .i64 f.room.a) ∧ w5.cell? ⟨w.heap.size, 4, none⟩ = some (.int .i64 f.room.b) ∧ w5.cell? ⟨w.heap.size, 5, none⟩ = some (.int .i64 f.room.c) ∧ w5.cell? ⟨w.heap.size + 1 + 1, 0, none⟩ = some (.string p.id) ∧ w5.cell? ⟨w.heap.size + 1 + 1, 1, none⟩ = some (.int .i64 p.prio) ∧ w5.cell? ⟨w.heap.size + 1 + 1, 2, none⟩ = some (.bool p.crit) ∧ w5.cell? ⟨w.heap.size + 1 + 1, 3, none⟩ = some (.int .i64 p.q0) ∧ w5.cell? ⟨w.heap.size + 1 + 1, 4, none⟩ = some (.int .i64 p.q1) ∧ w5.cell? ⟨w.heap.size + 1 + 1, 5, none⟩ = some (.int .i64 p.q2) ∧ w5.cell? ⟨w.heap.size + 1 + 1, 6, none⟩ = some (.int .i64 p.l0) ∧ w5.cell? ⟨w.heap.size + 1 + 1, 7, none⟩ = some (.int .i64 p.l1) ∧ w5.cell? ⟨w.heap.size + 1 + 1, 8, none⟩ = some (.int .i64 p.l2) ∧ w5.cell? ⟨w.heap.size + 1 + 1, 9, none⟩ = some (.string p.image) ∧ w5.cell? ⟨w.heap.size + 1 + 1, 10, none⟩ = some (.int .i64 p.size) ∧ w5.cell? ⟨b, off + k * 11, none⟩ = some (.string y.id) ∧ w5.cell? ⟨b, off + k * 11 + 1, none⟩ = some (.int .i64 y.prio) ∧ w5.cell? ⟨b, off + k * 11 + 2, none⟩ = some (.bool y.crit) ∧ w5.cell? ⟨b, off + k * 11 + 3, none⟩ = some (.int .i64 y.q0) ∧ w5.cell? ⟨b, off + k * 11 + 4, none⟩ = some (.int .i64 y.q1) ∧ w5.cell? ⟨b, off + k * 11 + 5, none⟩ = some (.int .i64 y.q2) ∧ w5.cell? ⟨b, off + k * 11 + 6, none⟩ = some (.int .i64 y.l0) ∧ w5.cell? ⟨b, off + k * 11 + 7, none⟩ = some (.int .i64 y.l1) ∧ w5.cell? ⟨b, off + k * 11 + 8, none⟩ = some (.int .i64 y.l2) ∧ w5.cell? ⟨b, off + k * 11 + 9, none⟩ = some (.string y.image) ∧ w5.cell? ⟨b, off + k * 11 + 10, none⟩ = some (.int .i64 y.size) from acCells3 HQ.out HRi.out HYK.out)
                        clear hK K
                        simp only [Act.put, List.setIfInBounds_toArray, List.set_cons_zero, List.set_cons_succ]
                        refine held_call 17 137 rfl rfl (by kernel_rfl) (by rfl) (fun K hK => ?_)
                        refine wp_app (w5) elemP encP (.tmp 131) (.tmp 136) rfl wd.heap.size _ ST (by simp [Act.eval]) HOW.out _ [y] 1 (by simp [Act.eval]) HRW.out (by simp; omega) (by simp; omega) HB.out.size ?_
                        intro A7 c7 w7 ho hg _
                        have hb7 := HOW.out.belowGrown HB.out hg (Nat.le_refl _) HB.out.size
                        have HOW := Lib.hid ho
                        have HB := Lib.hid hb7
                        clear ho hg hb7
                        have HQ := Lib.hid (HQd.out.below HB.out)
                        have HRi := Lib.hid (HRd.out.below HB.out)
                        refine hK _ _ (acCells3 HQ.out HRi.out HYK.out) ?_
                        have hHeld := (show w7.cell? ⟨w.heap.size, 3, none⟩ = some (.int .i64 f.room.a) ∧ w7.cell? ⟨w.heap.size, 4, none⟩ = some (.int .i64 f.room.b) ∧ w7.cell? ⟨w.heap.size, 5, none⟩ = some (.int .i64 f.room.c) ∧ w7.cell? ⟨w.heap.size + 1 + 1, 0, none⟩ = some (.string p.id) ∧ w7.cell? ⟨w.heap.size + 1 + 1, 1, none⟩ = some (.int .i64 p.prio) ∧ w7.cell? ⟨w.heap.size + 1 + 1, 2, none⟩ = some (.bool p.crit) ∧ w7.cell? ⟨w.heap.size + 1 + 1, 3, none⟩ = some (.int .i64 p.q0) ∧ w7.cell? ⟨w.heap.size + 1 + 1, 4, none⟩ = some (.int .i64 p.q1) ∧ w7.cell? ⟨w.heap.size + 1 + 1, 5, none⟩ = some (.int .i64 p.q2) ∧ w7.cell? ⟨w.heap.size + 1 + 1, 6, none⟩ = some (.int .i64 p.l0) ∧ w7.cell? ⟨w.heap.size + 1 + 1, 7, none⟩ = some (.int .i64 p.l1) ∧ w7.cell? ⟨w.heap.size + 1 + 1, 8, none⟩ = some (.int .i64 p.l2) ∧ w7.cell? ⟨w.heap.size + 1 + 1, 9, none⟩ = some (.string p.image) ∧ w7.cell? ⟨w.heap.size + 1 + 1, 10, none⟩ = some (.int .i64 p.size) ∧ w7.cell? ⟨b, off + k * 11, none⟩ = some (.string y.id) ∧ w7.cell? ⟨b, off + k * 11 + 1, none⟩ = some (.int .i64 y.prio) ∧ w7.cell? ⟨b, off + k * 11 + 2, none⟩ = some (.bool y.crit) ∧ w7.cell? ⟨b, off + k * 11 + 3, none⟩ = some (.int .i64 y.q0) ∧ w7.cell? ⟨b, off + k * 11 + 4, none⟩ = some (.int .i64 y.q1) ∧ w7.cell? ⟨b, off + k * 11 + 5, none⟩ = some (.int .i64 y.q2) ∧ w7.cell? ⟨b, off + k * 11 + 6, none⟩ = some (.int .i64 y.l0) ∧ w7.cell? ⟨b, off + k * 11 + 7, none⟩ = some (.int .i64 y.l1) ∧ w7.cell? ⟨b, off + k * 11 + 8, none⟩ = some (.int .i64 y.l2) ∧ w7.cell? ⟨b, off + k * 11 + 9, none⟩ = some (.string y.image) ∧ w7.cell? ⟨b, off + k * 11 + 10, none⟩ = some (.int .i64 y.size) from acCells3 HQ.out HRi.out HYK.out)
                        clear hK K
                        simp only [Act.put, List.setIfInBounds_toArray, List.set_cons_zero, List.set_cons_succ]
                        refine held_call 18 138 rfl rfl (by kernel_rfl) (by rfl) (fun K hK => ?_)
                        go_simp
                        have HO7 := Lib.hid (show Rds w7 encP A7 (ST ++ [y]) from HOW.out.toRds)
                        go_at_call 15; with_reducible refine (withinV HFY.out (show ST.length + 1 = (ST ++ [y]).length by simp) HO7.out HYL.out HWY.out HROOM.out.1 HROOM.out.2.1 HROOM.out.2.2).mono ?_; rintro e w9 ⟨rfl, hb⟩
                        have HB := Lib.hid (below_rV HB.out hb)
                        have HQ := Lib.hid (HQd.out.below HB.out)
                        have HRi := Lib.hid (HRd.out.below HB.out)
                        clear hb
                        refine hK _ _ (acCells3 HQ.out HRi.out HYK.out) ?_
                        have hHeld := (show w9.cell? ⟨w.heap.size, 3, none⟩ = some (.int .i64 f.room.a) ∧ w9.cell? ⟨w.heap.size, 4, none⟩ = some (.int .i64 f.room.b) ∧ w9.cell? ⟨w.heap.size, 5, none⟩ = some (.int .i64 f.room.c) ∧ w9.cell? ⟨w.heap.size + 1 + 1, 0, none⟩ = some (.string p.id) ∧ w9.cell? ⟨w.heap.size + 1 + 1, 1, none⟩ = some (.int .i64 p.prio) ∧ w9.cell? ⟨w.heap.size + 1 + 1, 2, none⟩ = some (.bool p.crit) ∧ w9.cell? ⟨w.heap.size + 1 + 1, 3, none⟩ = some (.int .i64 p.q0) ∧ w9.cell? ⟨w.heap.size + 1 + 1, 4, none⟩ = some (.int .i64 p.q1) ∧ w9.cell? ⟨w.heap.size + 1 + 1, 5, none⟩ = some (.int .i64 p.q2) ∧ w9.cell? ⟨w.heap.size + 1 + 1, 6, none⟩ = some (.int .i64 p.l0) ∧ w9.cell? ⟨w.heap.size + 1 + 1, 7, none⟩ = some (.int .i64 p.l1) ∧ w9.cell? ⟨w.heap.size + 1 + 1, 8, none⟩ = some (.int .i64 p.l2) ∧ w9.cell? ⟨w.heap.size + 1 + 1, 9, none⟩ = some (.string p.image) ∧ w9.cell? ⟨w.heap.size + 1 + 1, 10, none⟩ = some (.int .i64 p.size) ∧ w9.cell? ⟨b, off + k * 11, none⟩ = some (.string y.id) ∧ w9.cell? ⟨b, off + k * 11 + 1, none⟩ = some (.int .i64 y.prio) ∧ w9.cell? ⟨b, off + k * 11 + 2, none⟩ = some (.bool y.crit) ∧ w9.cell? ⟨b, off + k * 11 + 3, none⟩ = some (.int .i64 y.q0) ∧ w9.cell? ⟨b, off + k * 11 + 4, none⟩ = some (.int .i64 y.q1) ∧ w9.cell? ⟨b, off + k * 11 + 5, none⟩ = some (.int .i64 y.q2) ∧ w9.cell? ⟨b, off + k * 11 + 6, none⟩ = some (.int .i64 y.l0) ∧ w9.cell? ⟨b, off + k * 11 + 7, none⟩ = some (.int .i64 y.l1) ∧ w9.cell? ⟨b, off + k * 11 + 8, none⟩ = some (.int .i64 y.l2) ∧ w9.cell? ⟨b, off + k * 11 + 9, none⟩ = some (.string y.image) ∧ w9.cell? ⟨b, off + k * 11 + 10, none⟩ = some (.int .i64 y.size) from acCells3 HQ.out HRi.out HYK.out)
                        clear hK K
                        simp only [Act.put, List.setIfInBounds_toArray, List.set_cons_zero, List.set_cons_succ]
                        refine held_take 19 139 (.bool true) rfl rfl (by kernel_rfl) (by kernel_rfl) (by kernel_rfl) (fun _ _ _ h => h) (by rfl) (by intro w' hSw; (try dsimp only at hSw); go_simp; (try (with_reducible rfl))) (by assumption) ?_
                        simp only [Act.put, List.setIfInBounds_toArray, List.set_cons_zero, List.set_cons_succ]
                        refine held_take 20 140 (.bool true) rfl rfl (by kernel_rfl) (by kernel_rfl) (by kernel_rfl) (fun _ _ _ h => h) (by rfl) (by intro w' hSw; (try dsimp only at hSw); go_simp; (try (with_reducible rfl))) (by assumption) ?_
                        simp only [Act.put, List.setIfInBounds_toArray, List.set_cons_zero, List.set_cons_succ]
                        refine held_take 21 15 (.bool true) rfl rfl (by kernel_rfl) (by kernel_rfl) (by kernel_rfl) (fun _ _ _ h => h) (by rfl) (by intro w' hSw; (try dsimp only at hSw); go_simp; (try (with_reducible rfl))) (by assumption) ?_
                        simp only [Act.put, List.setIfInBounds_toArray, List.set_cons_zero, List.set_cons_succ]
                        refine wpAnyH_done (by kernel_rfl) ?_ _
                        clear hHeld
                        go_wp2_with fail
                        go_roundw
                        case rel => exact ⟨k + 1, by omega, HN.out, by go_num, below_rV HQB.out HB.out⟩
                        case measure => simp [intOf]; omega
                    · go_simp
                      have hrw := Rds.made (wd) encP [y] 29 #[.string y.id, .int .i64 y.prio, .bool y.crit, .int .i64 y.q0, .int .i64 y.q1, .int .i64 y.q2, .int .i64 y.l0, .int .i64 y.l1, .int .i64 y.l2, .string y.image, .int .i64 y.size] (0, 0) rfl
                      have HRW := Lib.hid hrw
                      clear hrw
                      have HB := Lib.hid (HB.out.alloc HB.out.size (.cells #[.string y.id, .int .i64 y.prio, .bool y.crit, .int .i64 y.q0, .int .i64 y.q1, .int .i64 y.q2, .int .i64 y.l0, .int .i64 y.l1, .int .i64 y.l2, .string y.image, .int .i64 y.size] 29))
                      have HQ := Lib.hid (HQd.out.below HB.out)
                      have HRi := Lib.hid (HRd.out.below HB.out)
                      refine hK _ _ (acCells3 HQ.out HRi.out HYK.out) ?_
                      have hHeld := (show ((wd).alloc (.cells #[.string y.id, .int .i64 y.prio, .bool y.crit, .int .i64 y.q0, .int .i64 y.q1, .int .i64 y.q2, .int .i64 y.l0, .int .i64 y.l1, .int .i64 y.l2, .string y.image, .int .i64 y.size] 29)).cell? ⟨w.heap.size, 3, none⟩ = some (.int .i64 f.room.a) ∧ ((wd).alloc (.cells #[.string y.id, .int .i64 y.prio, .bool y.crit, .int .i64 y.q0, .int .i64 y.q1, .int .i64 y.q2, .int .i64 y.l0, .int .i64 y.l1, .int .i64 y.l2, .string y.image, .int .i64 y.size] 29)).cell? ⟨w.heap.size, 4, none⟩ = some (.int .i64 f.room.b) ∧ ((wd).alloc (.cells #[.string y.id, .int .i64 y.prio, .bool y.crit, .int .i64 y.q0, .int .i64 y.q1, .int .i64 y.q2, .int .i64 y.l0, .int .i64 y.l1, .int .i64 y.l2, .string y.image, .int .i64 y.size] 29)).cell? ⟨w.heap.size, 5, none⟩ = some (.int .i64 f.room.c) ∧ ((wd).alloc (.cells #[.string y.id, .int .i64 y.prio, .bool y.crit, .int .i64 y.q0, .int .i64 y.q1, .int .i64 y.q2, .int .i64 y.l0, .int .i64 y.l1, .int .i64 y.l2, .string y.image, .int .i64 y.size] 29)).cell? ⟨w.heap.size + 1 + 1, 0, none⟩ = some (.string p.id) ∧ ((wd).alloc (.cells #[.string y.id, .int .i64 y.prio, .bool y.crit, .int .i64 y.q0, .int .i64 y.q1, .int .i64 y.q2, .int .i64 y.l0, .int .i64 y.l1, .int .i64 y.l2, .string y.image, .int .i64 y.size] 29)).cell? ⟨w.heap.size + 1 + 1, 1, none⟩ = some (.int .i64 p.prio) ∧ ((wd).alloc (.cells #[.string y.id, .int .i64 y.prio, .bool y.crit, .int .i64 y.q0, .int .i64 y.q1, .int .i64 y.q2, .int .i64 y.l0, .int .i64 y.l1, .int .i64 y.l2, .string y.image, .int .i64 y.size] 29)).cell? ⟨w.heap.size + 1 + 1, 2, none⟩ = some (.bool p.crit) ∧ ((wd).alloc (.cells #[.string y.id, .int .i64 y.prio, .bool y.crit, .int .i64 y.q0, .int .i64 y.q1, .int .i64 y.q2, .int .i64 y.l0, .int .i64 y.l1, .int .i64 y.l2, .string y.image, .int .i64 y.size] 29)).cell? ⟨w.heap.size + 1 + 1, 3, none⟩ = some (.int .i64 p.q0) ∧ ((wd).alloc (.cells #[.string y.id, .int .i64 y.prio, .bool y.crit, .int .i64 y.q0, .int .i64 y.q1, .int .i64 y.q2, .int .i64 y.l0, .int .i64 y.l1, .int .i64 y.l2, .string y.image, .int .i64 y.size] 29)).cell? ⟨w.heap.size + 1 + 1, 4, none⟩ = some (.int .i64 p.q1) ∧ ((wd).alloc (.cells #[.string y.id, .int .i64 y.prio, .bool y.crit, .int .i64 y.q0, .int .i64 y.q1, .int .i64 y.q2, .int .i64 y.l0, .int .i64 y.l1, .int .i64 y.l2, .string y.image, .int .i64 y.size] 29)).cell? ⟨w.heap.size + 1 + 1, 5, none⟩ = some (.int .i64 p.q2) ∧ ((wd).alloc (.cells #[.string y.id, .int .i64 y.prio, .bool y.crit, .int .i64 y.q0, .int .i64 y.q1, .int .i64 y.q2, .int .i64 y.l0, .int .i64 y.l1, .int .i64 y.l2, .string y.image, .int .i64 y.size] 29)).cell? ⟨w.heap.size + 1 + 1, 6, none⟩ = some (.int .i64 p.l0) ∧ ((wd).alloc (.cells #[.string y.id, .int .i64 y.prio, .bool y.crit, .int .i64 y.q0, .int .i64 y.q1, .int .i64 y.q2, .int .i64 y.l0, .int .i64 y.l1, .int .i64 y.l2, .string y.image, .int .i64 y.size] 29)).cell? ⟨w.heap.size + 1 + 1, 7, none⟩ = some (.int .i64 p.l1) ∧ ((wd).alloc (.cells #[.string y.id, .int .i64 y.prio, .bool y.crit, .int .i64 y.q0, .int .i64 y.q1, .int .i64 y.q2, .int .i64 y.l0, .int .i64 y.l1, .int .i64 y.l2, .string y.image, .int .i64 y.size] 29)).cell? ⟨w.heap.size + 1 + 1, 8, none⟩ = some (.int .i64 p.l2) ∧ ((wd).alloc (.cells #[.string y.id, .int .i64 y.prio, .bool y.crit, .int .i64 y.q0, .int .i64 y.q1, .int .i64 y.q2, .int .i64 y.l0, .int .i64 y.l1, .int .i64 y.l2, .string y.image, .int .i64 y.size] 29)).cell? ⟨w.heap.size + 1 + 1, 9, none⟩ = some (.string p.image) ∧ ((wd).alloc (.cells #[.string y.id, .int .i64 y.prio, .bool y.crit, .int .i64 y.q0, .int .i64 y.q1, .int .i64 y.q2, .int .i64 y.l0, .int .i64 y.l1, .int .i64 y.l2, .string y.image, .int .i64 y.size] 29)).cell? ⟨w.heap.size + 1 + 1, 10, none⟩ = some (.int .i64 p.size) ∧ ((wd).alloc (.cells #[.string y.id, .int .i64 y.prio, .bool y.crit, .int .i64 y.q0, .int .i64 y.q1, .int .i64 y.q2, .int .i64 y.l0, .int .i64 y.l1, .int .i64 y.l2, .string y.image, .int .i64 y.size] 29)).cell? ⟨b, off + k * 11, none⟩ = some (.string y.id) ∧ ((wd).alloc (.cells #[.string y.id, .int .i64 y.prio, .bool y.crit, .int .i64 y.q0, .int .i64 y.q1, .int .i64 y.q2, .int .i64 y.l0, .int .i64 y.l1, .int .i64 y.l2, .string y.image, .int .i64 y.size] 29)).cell? ⟨b, off + k * 11 + 1, none⟩ = some (.int .i64 y.prio) ∧ ((wd).alloc (.cells #[.string y.id, .int .i64 y.prio, .bool y.crit, .int .i64 y.q0, .int .i64 y.q1, .int .i64 y.q2, .int .i64 y.l0, .int .i64 y.l1, .int .i64 y.l2, .string y.image, .int .i64 y.size] 29)).cell? ⟨b, off + k * 11 + 2, none⟩ = some (.bool y.crit) ∧ ((wd).alloc (.cells #[.string y.id, .int .i64 y.prio, .bool y.crit, .int .i64 y.q0, .int .i64 y.q1, .int .i64 y.q2, .int .i64 y.l0, .int .i64 y.l1, .int .i64 y.l2, .string y.image, .int .i64 y.size] 29)).cell? ⟨b, off + k * 11 + 3, none⟩ = some (.int .i64 y.q0) ∧ ((wd).alloc (.cells #[.string y.id, .int .i64 y.prio, .bool y.crit, .int .i64 y.q0, .int .i64 y.q1, .int .i64 y.q2, .int .i64 y.l0, .int .i64 y.l1, .int .i64 y.l2, .string y.image, .int .i64 y.size] 29)).cell? ⟨b, off + k * 11 + 4, none⟩ = some (.int .i64 y.q1) ∧ ((wd).alloc (.cells #[.string y.id, .int .i64 y.prio, .bool y.crit, .int .i64 y.q0, .int .i64 y.q1, .int .i64 y.q2, .int .i64 y.l0, .int .i64 y.l1, .int .i64 y.l2, .string y.image, .int .i64 y.size] 29)).cell? ⟨b, off + k * 11 + 5, none⟩ = some (.int .i64 y.q2) ∧ ((wd).alloc (.cells #[.string y.id, .int .i64 y.prio, .bool y.crit, .int .i64 y.q0, .int .i64 y.q1, .int .i64 y.q2, .int .i64 y.l0, .int .i64 y.l1, .int .i64 y.l2, .string y.image, .int .i64 y.size] 29)).cell? ⟨b, off + k * 11 + 6, none⟩ = some (.int .i64 y.l0) ∧ ((wd).alloc (.cells #[.string y.id, .int .i64 y.prio, .bool y.crit, .int .i64 y.q0, .int .i64 y.q1, .int .i64 y.q2, .int .i64 y.l0, .int .i64 y.l1, .int .i64 y.l2, .string y.image, .int .i64 y.size] 29)).cell? ⟨b, off + k * 11 + 7, none⟩ = some (.int .i64 y.l1) ∧ ((wd).alloc (.cells #[.string y.id, .int .i64 y.prio, .bool y.crit, .int .i64 y.q0, .int .i64 y.q1, .int .i64 y.q2, .int .i64 y.l0, .int .i64 y.l1, .int .i64 y.l2, .string y.image, .int .i64 y.size] 29)).cell? ⟨b, off + k * 11 + 8, none⟩ = some (.int .i64 y.l2) ∧ ((wd).alloc (.cells #[.string y.id, .int .i64 y.prio, .bool y.crit, .int .i64 y.q0, .int .i64 y.q1, .int .i64 y.q2, .int .i64 y.l0, .int .i64 y.l1, .int .i64 y.l2, .string y.image, .int .i64 y.size] 29)).cell? ⟨b, off + k * 11 + 9, none⟩ = some (.string y.image) ∧ ((wd).alloc (.cells #[.string y.id, .int .i64 y.prio, .bool y.crit, .int .i64 y.q0, .int .i64 y.q1, .int .i64 y.q2, .int .i64 y.l0, .int .i64 y.l1, .int .i64 y.l2, .string y.image, .int .i64 y.size] 29)).cell? ⟨b, off + k * 11 + 10, none⟩ = some (.int .i64 y.size) from acCells3 HQ.out HRi.out HYK.out)
                      clear hK K
                      simp only [Act.put, List.setIfInBounds_toArray, List.set_cons_zero, List.set_cons_succ]
                      refine held_call 9 129 rfl rfl (by kernel_rfl) (by rfl) (fun K hK => ?_)
                      go_simp
                      have how := Own.made (wd.alloc (.cells #[.string y.id, .int .i64 y.prio, .bool y.crit, .int .i64 y.q0, .int .i64 y.q1, .int .i64 y.q2, .int .i64 y.l0, .int .i64 y.l1, .int .i64 y.l2, .string y.image, .int .i64 y.size] 29)) wd.heap.size 29 encP [] #[] rfl HB.out.size (by simp)
                      rw [show (wd.alloc (.cells #[.string y.id, .int .i64 y.prio, .bool y.crit, .int .i64 y.q0, .int .i64 y.q1, .int .i64 y.q2, .int .i64 y.l0, .int .i64 y.l1, .int .i64 y.l2, .string y.image, .int .i64 y.size] 29)).heap.size = wd.heap.size + 1 from by simp] at how
                      have HRW := Lib.hid (HRW.out.alloc (.cells #[] 29))
                      have HOW := Lib.hid how
                      clear how
                      have HB := Lib.hid (HB.out.alloc HB.out.size (.cells #[] 29))
                      have HQ := Lib.hid (HQd.out.below HB.out)
                      have HRi := Lib.hid (HRd.out.below HB.out)
                      refine hK _ _ (acCells3 HQ.out HRi.out HYK.out) ?_
                      have hHeld := (show ((wd.alloc (.cells #[.string y.id, .int .i64 y.prio, .bool y.crit, .int .i64 y.q0, .int .i64 y.q1, .int .i64 y.q2, .int .i64 y.l0, .int .i64 y.l1, .int .i64 y.l2, .string y.image, .int .i64 y.size] 29)).alloc (.cells #[] 29)).cell? ⟨w.heap.size, 3, none⟩ = some (.int .i64 f.room.a) ∧ ((wd.alloc (.cells #[.string y.id, .int .i64 y.prio, .bool y.crit, .int .i64 y.q0, .int .i64 y.q1, .int .i64 y.q2, .int .i64 y.l0, .int .i64 y.l1, .int .i64 y.l2, .string y.image, .int .i64 y.size] 29)).alloc (.cells #[] 29)).cell? ⟨w.heap.size, 4, none⟩ = some (.int .i64 f.room.b) ∧ ((wd.alloc (.cells #[.string y.id, .int .i64 y.prio, .bool y.crit, .int .i64 y.q0, .int .i64 y.q1, .int .i64 y.q2, .int .i64 y.l0, .int .i64 y.l1, .int .i64 y.l2, .string y.image, .int .i64 y.size] 29)).alloc (.cells #[] 29)).cell? ⟨w.heap.size, 5, none⟩ = some (.int .i64 f.room.c) ∧ ((wd.alloc (.cells #[.string y.id, .int .i64 y.prio, .bool y.crit, .int .i64 y.q0, .int .i64 y.q1, .int .i64 y.q2, .int .i64 y.l0, .int .i64 y.l1, .int .i64 y.l2, .string y.image, .int .i64 y.size] 29)).alloc (.cells #[] 29)).cell? ⟨w.heap.size + 1 + 1, 0, none⟩ = some (.string p.id) ∧ ((wd.alloc (.cells #[.string y.id, .int .i64 y.prio, .bool y.crit, .int .i64 y.q0, .int .i64 y.q1, .int .i64 y.q2, .int .i64 y.l0, .int .i64 y.l1, .int .i64 y.l2, .string y.image, .int .i64 y.size] 29)).alloc (.cells #[] 29)).cell? ⟨w.heap.size + 1 + 1, 1, none⟩ = some (.int .i64 p.prio) ∧ ((wd.alloc (.cells #[.string y.id, .int .i64 y.prio, .bool y.crit, .int .i64 y.q0, .int .i64 y.q1, .int .i64 y.q2, .int .i64 y.l0, .int .i64 y.l1, .int .i64 y.l2, .string y.image, .int .i64 y.size] 29)).alloc (.cells #[] 29)).cell? ⟨w.heap.size + 1 + 1, 2, none⟩ = some (.bool p.crit) ∧ ((wd.alloc (.cells #[.string y.id, .int .i64 y.prio, .bool y.crit, .int .i64 y.q0, .int .i64 y.q1, .int .i64 y.q2, .int .i64 y.l0, .int .i64 y.l1, .int .i64 y.l2, .string y.image, .int .i64 y.size] 29)).alloc (.cells #[] 29)).cell? ⟨w.heap.size + 1 + 1, 3, none⟩ = some (.int .i64 p.q0) ∧ ((wd.alloc (.cells #[.string y.id, .int .i64 y.prio, .bool y.crit, .int .i64 y.q0, .int .i64 y.q1, .int .i64 y.q2, .int .i64 y.l0, .int .i64 y.l1, .int .i64 y.l2, .string y.image, .int .i64 y.size] 29)).alloc (.cells #[] 29)).cell? ⟨w.heap.size + 1 + 1, 4, none⟩ = some (.int .i64 p.q1) ∧ ((wd.alloc (.cells #[.string y.id, .int .i64 y.prio, .bool y.crit, .int .i64 y.q0, .int .i64 y.q1, .int .i64 y.q2, .int .i64 y.l0, .int .i64 y.l1, .int .i64 y.l2, .string y.image, .int .i64 y.size] 29)).alloc (.cells #[] 29)).cell? ⟨w.heap.size + 1 + 1, 5, none⟩ = some (.int .i64 p.q2) ∧ ((wd.alloc (.cells #[.string y.id, .int .i64 y.prio, .bool y.crit, .int .i64 y.q0, .int .i64 y.q1, .int .i64 y.q2, .int .i64 y.l0, .int .i64 y.l1, .int .i64 y.l2, .string y.image, .int .i64 y.size] 29)).alloc (.cells #[] 29)).cell? ⟨w.heap.size + 1 + 1, 6, none⟩ = some (.int .i64 p.l0) ∧ ((wd.alloc (.cells #[.string y.id, .int .i64 y.prio, .bool y.crit, .int .i64 y.q0, .int .i64 y.q1, .int .i64 y.q2, .int .i64 y.l0, .int .i64 y.l1, .int .i64 y.l2, .string y.image, .int .i64 y.size] 29)).alloc (.cells #[] 29)).cell? ⟨w.heap.size + 1 + 1, 7, none⟩ = some (.int .i64 p.l1) ∧ ((wd.alloc (.cells #[.string y.id, .int .i64 y.prio, .bool y.crit, .int .i64 y.q0, .int .i64 y.q1, .int .i64 y.q2, .int .i64 y.l0, .int .i64 y.l1, .int .i64 y.l2, .string y.image, .int .i64 y.size] 29)).alloc (.cells #[] 29)).cell? ⟨w.heap.size + 1 + 1, 8, none⟩ = some (.int .i64 p.l2) ∧ ((wd.alloc (.cells #[.string y.id, .int .i64 y.prio, .bool y.crit, .int .i64 y.q0, .int .i64 y.q1, .int .i64 y.q2, .int .i64 y.l0, .int .i64 y.l1, .int .i64 y.l2, .string y.image, .int .i64 y.size] 29)).alloc (.cells #[] 29)).cell? ⟨w.heap.size + 1 + 1, 9, none⟩ = some (.string p.image) ∧ ((wd.alloc (.cells #[.string y.id, .int .i64 y.prio, .bool y.crit, .int .i64 y.q0, .int .i64 y.q1, .int .i64 y.q2, .int .i64 y.l0, .int .i64 y.l1, .int .i64 y.l2, .string y.image, .int .i64 y.size] 29)).alloc (.cells #[] 29)).cell? ⟨w.heap.size + 1 + 1, 10, none⟩ = some (.int .i64 p.size) ∧ ((wd.alloc (.cells #[.string y.id, .int .i64 y.prio, .bool y.crit, .int .i64 y.q0, .int .i64 y.q1, .int .i64 y.q2, .int .i64 y.l0, .int .i64 y.l1, .int .i64 y.l2, .string y.image, .int .i64 y.size] 29)).alloc (.cells #[] 29)).cell? ⟨b, off + k * 11, none⟩ = some (.string y.id) ∧ ((wd.alloc (.cells #[.string y.id, .int .i64 y.prio, .bool y.crit, .int .i64 y.q0, .int .i64 y.q1, .int .i64 y.q2, .int .i64 y.l0, .int .i64 y.l1, .int .i64 y.l2, .string y.image, .int .i64 y.size] 29)).alloc (.cells #[] 29)).cell? ⟨b, off + k * 11 + 1, none⟩ = some (.int .i64 y.prio) ∧ ((wd.alloc (.cells #[.string y.id, .int .i64 y.prio, .bool y.crit, .int .i64 y.q0, .int .i64 y.q1, .int .i64 y.q2, .int .i64 y.l0, .int .i64 y.l1, .int .i64 y.l2, .string y.image, .int .i64 y.size] 29)).alloc (.cells #[] 29)).cell? ⟨b, off + k * 11 + 2, none⟩ = some (.bool y.crit) ∧ ((wd.alloc (.cells #[.string y.id, .int .i64 y.prio, .bool y.crit, .int .i64 y.q0, .int .i64 y.q1, .int .i64 y.q2, .int .i64 y.l0, .int .i64 y.l1, .int .i64 y.l2, .string y.image, .int .i64 y.size] 29)).alloc (.cells #[] 29)).cell? ⟨b, off + k * 11 + 3, none⟩ = some (.int .i64 y.q0) ∧ ((wd.alloc (.cells #[.string y.id, .int .i64 y.prio, .bool y.crit, .int .i64 y.q0, .int .i64 y.q1, .int .i64 y.q2, .int .i64 y.l0, .int .i64 y.l1, .int .i64 y.l2, .string y.image, .int .i64 y.size] 29)).alloc (.cells #[] 29)).cell? ⟨b, off + k * 11 + 4, none⟩ = some (.int .i64 y.q1) ∧ ((wd.alloc (.cells #[.string y.id, .int .i64 y.prio, .bool y.crit, .int .i64 y.q0, .int .i64 y.q1, .int .i64 y.q2, .int .i64 y.l0, .int .i64 y.l1, .int .i64 y.l2, .string y.image, .int .i64 y.size] 29)).alloc (.cells #[] 29)).cell? ⟨b, off + k * 11 + 5, none⟩ = some (.int .i64 y.q2) ∧ ((wd.alloc (.cells #[.string y.id, .int .i64 y.prio, .bool y.crit, .int .i64 y.q0, .int .i64 y.q1, .int .i64 y.q2, .int .i64 y.l0, .int .i64 y.l1, .int .i64 y.l2, .string y.image, .int .i64 y.size] 29)).alloc (.cells #[] 29)).cell? ⟨b, off + k * 11 + 6, none⟩ = some (.int .i64 y.l0) ∧ ((wd.alloc (.cells #[.string y.id, .int .i64 y.prio, .bool y.crit, .int .i64 y.q0, .int .i64 y.q1, .int .i64 y.q2, .int .i64 y.l0, .int .i64 y.l1, .int .i64 y.l2, .string y.image, .int .i64 y.size] 29)).alloc (.cells #[] 29)).cell? ⟨b, off + k * 11 + 7, none⟩ = some (.int .i64 y.l1) ∧ ((wd.alloc (.cells #[.string y.id, .int .i64 y.prio, .bool y.crit, .int .i64 y.q0, .int .i64 y.q1, .int .i64 y.q2, .int .i64 y.l0, .int .i64 y.l1, .int .i64 y.l2, .string y.image, .int .i64 y.size] 29)).alloc (.cells #[] 29)).cell? ⟨b, off + k * 11 + 8, none⟩ = some (.int .i64 y.l2) ∧ ((wd.alloc (.cells #[.string y.id, .int .i64 y.prio, .bool y.crit, .int .i64 y.q0, .int .i64 y.q1, .int .i64 y.q2, .int .i64 y.l0, .int .i64 y.l1, .int .i64 y.l2, .string y.image, .int .i64 y.size] 29)).alloc (.cells #[] 29)).cell? ⟨b, off + k * 11 + 9, none⟩ = some (.string y.image) ∧ ((wd.alloc (.cells #[.string y.id, .int .i64 y.prio, .bool y.crit, .int .i64 y.q0, .int .i64 y.q1, .int .i64 y.q2, .int .i64 y.l0, .int .i64 y.l1, .int .i64 y.l2, .string y.image, .int .i64 y.size] 29)).alloc (.cells #[] 29)).cell? ⟨b, off + k * 11 + 10, none⟩ = some (.int .i64 y.size) from acCells3 HQ.out HRi.out HYK.out)
                      clear hK K
                      simp only [Act.put, List.setIfInBounds_toArray, List.set_cons_zero, List.set_cons_succ]
                      refine held_call 11 131 rfl rfl (by kernel_rfl) (by rfl) (fun K hK => ?_)
                      refine wp_app ((wd.alloc (.cells #[.string y.id, .int .i64 y.prio, .bool y.crit, .int .i64 y.q0, .int .i64 y.q1, .int .i64 y.q2, .int .i64 y.l0, .int .i64 y.l1, .int .i64 y.l2, .string y.image, .int .i64 y.size] 29)).alloc (.cells #[] 29)) elemP encP (.tmp 129) (.tmp 130) rfl wd.heap.size _ [] (by simp [Act.eval]) HOW.out As ST cs (by simp [Act.eval]) (HSd.out.below (HB.out.mono (by simp))) (by simp; omega) (by simp; omega) HB.out.size ?_
                      intro A5 c5 w5 ho hg _
                      have hb5 := HOW.out.belowGrown HB.out hg (Nat.le_refl _) HB.out.size
                      have HRW := Lib.hid (HRW.out.grownN hg (by simp [Value.ownBlock]))
                      have how : Own w5 wd.heap.size 29 encP (.slice A5 (ST).length c5) ST := by simpa using ho
                      have HOW := Lib.hid how
                      have HB := Lib.hid hb5
                      clear ho how hg hb5
                      have HQ := Lib.hid (HQd.out.below HB.out)
                      have HRi := Lib.hid (HRd.out.below HB.out)
                      simp only [List.length_nil, Nat.zero_add]
                      refine hK _ _ (acCells3 HQ.out HRi.out HYK.out) ?_
                      have hHeld := (show w5.cell? ⟨w.heap.size, 3, none⟩ = some (.int .i64 f.room.a) ∧ w5.cell? ⟨w.heap.size, 4, none⟩ = some (.int .i64 f.room.b) ∧ w5.cell? ⟨w.heap.size, 5, none⟩ = some (.int .i64 f.room.c) ∧ w5.cell? ⟨w.heap.size + 1 + 1, 0, none⟩ = some (.string p.id) ∧ w5.cell? ⟨w.heap.size + 1 + 1, 1, none⟩ = some (.int .i64 p.prio) ∧ w5.cell? ⟨w.heap.size + 1 + 1, 2, none⟩ = some (.bool p.crit) ∧ w5.cell? ⟨w.heap.size + 1 + 1, 3, none⟩ = some (.int .i64 p.q0) ∧ w5.cell? ⟨w.heap.size + 1 + 1, 4, none⟩ = some (.int .i64 p.q1) ∧ w5.cell? ⟨w.heap.size + 1 + 1, 5, none⟩ = some (.int .i64 p.q2) ∧ w5.cell? ⟨w.heap.size + 1 + 1, 6, none⟩ = some (.int .i64 p.l0) ∧ w5.cell? ⟨w.heap.size + 1 + 1, 7, none⟩ = some (.int .i64 p.l1) ∧ w5.cell? ⟨w.heap.size + 1 + 1, 8, none⟩ = some (.int .i64 p.l2) ∧ w5.cell? ⟨w.heap.size + 1 + 1, 9, none⟩ = some (.string p.image) ∧ w5.cell? ⟨w.heap.size + 1 + 1, 10, none⟩ = some (.int .i64 p.size) ∧ w5.cell? ⟨b, off + k * 11, none⟩ = some (.string y.id) ∧ w5.cell? ⟨b, off + k * 11 + 1, none⟩ = some (.int .i64 y.prio) ∧ w5.cell? ⟨b, off + k * 11 + 2, none⟩ = some (.bool y.crit) ∧ w5.cell? ⟨b, off + k * 11 + 3, none⟩ = some (.int .i64 y.q0) ∧ w5.cell? ⟨b, off + k * 11 + 4, none⟩ = some (.int .i64 y.q1) ∧ w5.cell? ⟨b, off + k * 11 + 5, none⟩ = some (.int .i64 y.q2) ∧ w5.cell? ⟨b, off + k * 11 + 6, none⟩ = some (.int .i64 y.l0) ∧ w5.cell? ⟨b, off + k * 11 + 7, none⟩ = some (.int .i64 y.l1) ∧ w5.cell? ⟨b, off + k * 11 + 8, none⟩ = some (.int .i64 y.l2) ∧ w5.cell? ⟨b, off + k * 11 + 9, none⟩ = some (.string y.image) ∧ w5.cell? ⟨b, off + k * 11 + 10, none⟩ = some (.int .i64 y.size) from acCells3 HQ.out HRi.out HYK.out)
                      clear hK K
                      simp only [Act.put, List.setIfInBounds_toArray, List.set_cons_zero, List.set_cons_succ]
                      refine held_call 17 137 rfl rfl (by kernel_rfl) (by rfl) (fun K hK => ?_)
                      refine wp_app (w5) elemP encP (.tmp 131) (.tmp 136) rfl wd.heap.size _ ST (by simp [Act.eval]) HOW.out _ [y] 1 (by simp [Act.eval]) HRW.out (by simp; omega) (by simp; omega) HB.out.size ?_
                      intro A7 c7 w7 ho hg _
                      have hb7 := HOW.out.belowGrown HB.out hg (Nat.le_refl _) HB.out.size
                      have HOW := Lib.hid ho
                      have HB := Lib.hid hb7
                      clear ho hg hb7
                      have HQ := Lib.hid (HQd.out.below HB.out)
                      have HRi := Lib.hid (HRd.out.below HB.out)
                      refine hK _ _ (acCells3 HQ.out HRi.out HYK.out) ?_
                      have hHeld := (show w7.cell? ⟨w.heap.size, 3, none⟩ = some (.int .i64 f.room.a) ∧ w7.cell? ⟨w.heap.size, 4, none⟩ = some (.int .i64 f.room.b) ∧ w7.cell? ⟨w.heap.size, 5, none⟩ = some (.int .i64 f.room.c) ∧ w7.cell? ⟨w.heap.size + 1 + 1, 0, none⟩ = some (.string p.id) ∧ w7.cell? ⟨w.heap.size + 1 + 1, 1, none⟩ = some (.int .i64 p.prio) ∧ w7.cell? ⟨w.heap.size + 1 + 1, 2, none⟩ = some (.bool p.crit) ∧ w7.cell? ⟨w.heap.size + 1 + 1, 3, none⟩ = some (.int .i64 p.q0) ∧ w7.cell? ⟨w.heap.size + 1 + 1, 4, none⟩ = some (.int .i64 p.q1) ∧ w7.cell? ⟨w.heap.size + 1 + 1, 5, none⟩ = some (.int .i64 p.q2) ∧ w7.cell? ⟨w.heap.size + 1 + 1, 6, none⟩ = some (.int .i64 p.l0) ∧ w7.cell? ⟨w.heap.size + 1 + 1, 7, none⟩ = some (.int .i64 p.l1) ∧ w7.cell? ⟨w.heap.size + 1 + 1, 8, none⟩ = some (.int .i64 p.l2) ∧ w7.cell? ⟨w.heap.size + 1 + 1, 9, none⟩ = some (.string p.image) ∧ w7.cell? ⟨w.heap.size + 1 + 1, 10, none⟩ = some (.int .i64 p.size) ∧ w7.cell? ⟨b, off + k * 11, none⟩ = some (.string y.id) ∧ w7.cell? ⟨b, off + k * 11 + 1, none⟩ = some (.int .i64 y.prio) ∧ w7.cell? ⟨b, off + k * 11 + 2, none⟩ = some (.bool y.crit) ∧ w7.cell? ⟨b, off + k * 11 + 3, none⟩ = some (.int .i64 y.q0) ∧ w7.cell? ⟨b, off + k * 11 + 4, none⟩ = some (.int .i64 y.q1) ∧ w7.cell? ⟨b, off + k * 11 + 5, none⟩ = some (.int .i64 y.q2) ∧ w7.cell? ⟨b, off + k * 11 + 6, none⟩ = some (.int .i64 y.l0) ∧ w7.cell? ⟨b, off + k * 11 + 7, none⟩ = some (.int .i64 y.l1) ∧ w7.cell? ⟨b, off + k * 11 + 8, none⟩ = some (.int .i64 y.l2) ∧ w7.cell? ⟨b, off + k * 11 + 9, none⟩ = some (.string y.image) ∧ w7.cell? ⟨b, off + k * 11 + 10, none⟩ = some (.int .i64 y.size) from acCells3 HQ.out HRi.out HYK.out)
                      clear hK K
                      simp only [Act.put, List.setIfInBounds_toArray, List.set_cons_zero, List.set_cons_succ]
                      refine held_call 18 138 rfl rfl (by kernel_rfl) (by rfl) (fun K hK => ?_)
                      go_simp
                      have HO7 := Lib.hid (show Rds w7 encP A7 (ST ++ [y]) from HOW.out.toRds)
                      go_at_call 15; with_reducible refine (withinV HFY.out (show ST.length + 1 = (ST ++ [y]).length by simp) HO7.out HYL.out HWY.out HROOM.out.1 HROOM.out.2.1 HROOM.out.2.2).mono ?_; rintro e w9 ⟨rfl, hb⟩
                      have HB := Lib.hid (below_rV HB.out hb)
                      have HQ := Lib.hid (HQd.out.below HB.out)
                      have HRi := Lib.hid (HRd.out.below HB.out)
                      clear hb
                      refine hK _ _ (acCells3 HQ.out HRi.out HYK.out) ?_
                      have hHeld := (show w9.cell? ⟨w.heap.size, 3, none⟩ = some (.int .i64 f.room.a) ∧ w9.cell? ⟨w.heap.size, 4, none⟩ = some (.int .i64 f.room.b) ∧ w9.cell? ⟨w.heap.size, 5, none⟩ = some (.int .i64 f.room.c) ∧ w9.cell? ⟨w.heap.size + 1 + 1, 0, none⟩ = some (.string p.id) ∧ w9.cell? ⟨w.heap.size + 1 + 1, 1, none⟩ = some (.int .i64 p.prio) ∧ w9.cell? ⟨w.heap.size + 1 + 1, 2, none⟩ = some (.bool p.crit) ∧ w9.cell? ⟨w.heap.size + 1 + 1, 3, none⟩ = some (.int .i64 p.q0) ∧ w9.cell? ⟨w.heap.size + 1 + 1, 4, none⟩ = some (.int .i64 p.q1) ∧ w9.cell? ⟨w.heap.size + 1 + 1, 5, none⟩ = some (.int .i64 p.q2) ∧ w9.cell? ⟨w.heap.size + 1 + 1, 6, none⟩ = some (.int .i64 p.l0) ∧ w9.cell? ⟨w.heap.size + 1 + 1, 7, none⟩ = some (.int .i64 p.l1) ∧ w9.cell? ⟨w.heap.size + 1 + 1, 8, none⟩ = some (.int .i64 p.l2) ∧ w9.cell? ⟨w.heap.size + 1 + 1, 9, none⟩ = some (.string p.image) ∧ w9.cell? ⟨w.heap.size + 1 + 1, 10, none⟩ = some (.int .i64 p.size) ∧ w9.cell? ⟨b, off + k * 11, none⟩ = some (.string y.id) ∧ w9.cell? ⟨b, off + k * 11 + 1, none⟩ = some (.int .i64 y.prio) ∧ w9.cell? ⟨b, off + k * 11 + 2, none⟩ = some (.bool y.crit) ∧ w9.cell? ⟨b, off + k * 11 + 3, none⟩ = some (.int .i64 y.q0) ∧ w9.cell? ⟨b, off + k * 11 + 4, none⟩ = some (.int .i64 y.q1) ∧ w9.cell? ⟨b, off + k * 11 + 5, none⟩ = some (.int .i64 y.q2) ∧ w9.cell? ⟨b, off + k * 11 + 6, none⟩ = some (.int .i64 y.l0) ∧ w9.cell? ⟨b, off + k * 11 + 7, none⟩ = some (.int .i64 y.l1) ∧ w9.cell? ⟨b, off + k * 11 + 8, none⟩ = some (.int .i64 y.l2) ∧ w9.cell? ⟨b, off + k * 11 + 9, none⟩ = some (.string y.image) ∧ w9.cell? ⟨b, off + k * 11 + 10, none⟩ = some (.int .i64 y.size) from acCells3 HQ.out HRi.out HYK.out)
                      clear hK K
                      simp only [Act.put, List.setIfInBounds_toArray, List.set_cons_zero, List.set_cons_succ]
                      refine held_take 19 139 (.bool true) rfl rfl (by kernel_rfl) (by kernel_rfl) (by kernel_rfl) (fun _ _ _ h => h) (by rfl) (by intro w' hSw; (try dsimp only at hSw); go_simp; (try (with_reducible rfl))) (by assumption) ?_
                      simp only [Act.put, List.setIfInBounds_toArray, List.set_cons_zero, List.set_cons_succ]
                      refine held_take 20 140 (.bool true) rfl rfl (by kernel_rfl) (by kernel_rfl) (by kernel_rfl) (fun _ _ _ h => h) (by rfl) (by intro w' hSw; (try dsimp only at hSw); go_simp; (try (with_reducible rfl))) (by assumption) ?_
                      simp only [Act.put, List.setIfInBounds_toArray, List.set_cons_zero, List.set_cons_succ]
                      refine held_take 21 15 (.bool true) rfl rfl (by kernel_rfl) (by kernel_rfl) (by kernel_rfl) (fun _ _ _ h => h) (by rfl) (by intro w' hSw; (try dsimp only at hSw); go_simp; (try (with_reducible rfl))) (by assumption) ?_
                      simp only [Act.put, List.setIfInBounds_toArray, List.set_cons_zero, List.set_cons_succ]
                      refine wpAnyH_done (by kernel_rfl) ?_ _
                      clear hHeld
                      go_wp2_with fail
                      go_roundw
                      case rel => exact ⟨k + 1, by omega, HN.out, by go_num, below_rV HQB.out HB.out⟩
                      case measure => simp [intOf]; omega
                · obtain rfl : k = (podsD l).length := by omega
                  have dq : decide (((podsD l).length : Int) < ((podsD l).length : Int)) = false := by simp
                  rw [List.take_length, anyId_all HD.out]
                  have cv := (HV0.out.belowAll HQB.out).cell
                  go_wp2_with fail
                  go_roundw
                  case rel => exact ⟨i + 1, by omega, by go_num, HQB.out⟩
                  case measure => simp [intOf]; omega
            · obtain rfl : i = O.length := by omega
              have dk : decide ((O.length : Int) < (O.length : Int)) = false := by simp
              have cv := (HV0.out.belowAll HQB.out).cell
              go_wp2_with fail
              go_ret
              exact ⟨rfl, (HQ0.out.below HQB.out).bel⟩
end Go.Proofs.YtlhmhcidknadmaaDoor
