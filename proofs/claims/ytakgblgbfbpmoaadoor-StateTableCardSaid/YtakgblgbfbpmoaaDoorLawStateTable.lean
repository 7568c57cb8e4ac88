/- bilgelaw24.StateTable: of whatever right state and entry: the state with it, and without it; where each stands; both are right. -/
import Derived.Test.YtakgblgbfbpmoaaDoorMV
namespace Go.Proofs.YtakgblgbfbpmoaaDoor
open Go.RowKit

structure TbQ (rd : Int) (A : Option Addr) (n c : Nat) (o0 o1 o2 : Bool) (e : En) (w W : World) : Prop where
  sb : Blk W (w.heap.size) 25 #[.int .i64 rd, .slice A n c, .bool o0, .bool o1, .bool o2]
  eb : Blk W (w.heap.size + 1) 46 #[.string e.pod.id, .int .i64 e.pod.prio, .bool e.pod.crit, .int .i64 e.pod.q0, .int .i64 e.pod.q1, .int .i64 e.pod.q2, .int .i64 e.pod.l0, .int .i64 e.pod.l1, .int .i64 e.pod.l2, .string e.pod.image, .int .i64 e.pod.size, .int .i64 e.phase]
  bel : Below w.heap.size w W
theorem TbQ.below {rd : Int} {A : Option Addr} {n c : Nat} {o0 o1 o2 : Bool} {e : En} {w W W' : World} (h : TbQ rd A n c o0 o1 o2 e w W) (hb : Below W.heap.size W W') : TbQ rd A n c o0 o1 o2 e w W' := ⟨h.sb.belowAll hb, h.eb.belowAll hb, h.bel.trans (hb.mono h.bel.size)⟩
theorem TbQ.alloc {rd : Int} {A : Option Addr} {n c : Nat} {o0 o1 o2 : Bool} {e : En} {w W : World} (h : TbQ rd A n c o0 o1 o2 e w W) (o : Obj) : TbQ rd A n c o0 o1 o2 e w (W.alloc o) := ⟨h.sb.alloc o, h.eb.alloc o, h.bel.alloc h.bel.size o⟩
theorem TbQ.drew {rd : Int} {A : Option Addr} {n c : Nat} {o0 o1 o2 : Bool} {e : En} {w W : World} (h : TbQ rd A n c o0 o1 o2 e w W) : TbQ rd A n c o0 o1 o2 e w W.drew := ⟨h.sb.drew, h.eb.drew, h.bel.drew⟩
theorem TbQ.new (rd : Int) (A : Option Addr) (n c : Nat) (o0 o1 o2 : Bool) (e : En) (w : World) : TbQ rd A n c o0 o1 o2 e w ((w.alloc (.cells #[.int .i64 rd, .slice A n c, .bool o0, .bool o1, .bool o2] 25)).alloc (.cells #[.string e.pod.id, .int .i64 e.pod.prio, .bool e.pod.crit, .int .i64 e.pod.q0, .int .i64 e.pod.q1, .int .i64 e.pod.q2, .int .i64 e.pod.l0, .int .i64 e.pod.l1, .int .i64 e.pod.l2, .string e.pod.image, .int .i64 e.pod.size, .int .i64 e.phase] 46)) := by
  have z1 : (w.alloc (.cells #[.int .i64 rd, .slice A n c, .bool o0, .bool o1, .bool o2] 25)).heap.size = w.heap.size + 1 := by simp
  have b0 := Blk.new w 25 #[.int .i64 rd, .slice A n c, .bool o0, .bool o1, .bool o2]
  have b1 := Blk.new (w.alloc (.cells #[.int .i64 rd, .slice A n c, .bool o0, .bool o1, .bool o2] 25)) 46 #[.string e.pod.id, .int .i64 e.pod.prio, .bool e.pod.crit, .int .i64 e.pod.q0, .int .i64 e.pod.q1, .int .i64 e.pod.q2, .int .i64 e.pod.l0, .int .i64 e.pod.l1, .int .i64 e.pod.l2, .string e.pod.image, .int .i64 e.pod.size, .int .i64 e.phase]
  rw [z1] at b1
  have bel : Below w.heap.size w ((w.alloc (.cells #[.int .i64 rd, .slice A n c, .bool o0, .bool o1, .bool o2] 25)).alloc (.cells #[.string e.pod.id, .int .i64 e.pod.prio, .bool e.pod.crit, .int .i64 e.pod.q0, .int .i64 e.pod.q1, .int .i64 e.pod.q2, .int .i64 e.pod.l0, .int .i64 e.pod.l1, .int .i64 e.pod.l2, .string e.pod.image, .int .i64 e.pod.size, .int .i64 e.phase] 46)) := ((Below.refl w.heap.size w).alloc (Nat.le_refl _) _).alloc (by rw [z1]; omega) _
  exact ⟨(b0.alloc _), b1, bel⟩

set_option maxRecDepth 100000 in
set_option maxHeartbeats 16000000 in
theorem stateTable_any (rd : Int) (l : List En) (e : En) (id : ByteArray) (A : Option Addr) (c : Nat) (o0 o1 o2 : Bool) (w : World) (hr : Rds w encN A l) (hw : ∀ x ∈ l, x.pod.Wf ∧ I64 x.phase) (hm : l.length ≤ 9223372036854775807) (he : e.pod.Wf) (hep : I64 e.phase) :
    Calls Tryd.prog 7 #[.agg #[.int .i64 rd, .slice A l.length c, .bool o0, .bool o1, .bool o2], .agg #[.string e.pod.id, .int .i64 e.pod.prio, .bool e.pod.crit, .int .i64 e.pod.q0, .int .i64 e.pod.q1, .int .i64 e.pod.q2, .int .i64 e.pod.l0, .int .i64 e.pod.l1, .int .i64 e.pod.l2, .string e.pod.image, .int .i64 e.pod.size, .int .i64 e.phase], .string id] w fun e w' => e = .returned (.bool true) ∧ Below w.heap.size w w' := by
  have mixed : Tryd.prog.follows Departure.mixedOrders = true := by kernel_rfl
  have HQ := Lib.hid (TbQ.new rd A l.length c o0 o1 o2 e w)
  have HR := Lib.hid hr
  have HWE := Lib.hid hw
  have HW := Lib.hid (show ∀ x ∈ l, x.pod.Wf from fun x hx => (hw x hx).1)
  have HE := Lib.hid (And.intro he hep)
  clear he hep
  clear hr hw
  go_enter Tryd.func7, Tryd.ntmps7
  go_wp2_with fail
  refine (awake24_any _).mono ?_; rintro e w1 ⟨rfl, hb⟩
  have HQ := Lib.hid (HQ.out.below hb)
  clear hb
  have cs := HQ.out.sb.cell
  go_wp2_with fail
  obtain ⟨v1, hv1⟩ : ∃ v, fewS l = v := ⟨_, rfl⟩
  have HFW := Lib.hid hv1
  clear hv1
  refine (few24_any HFW.out rd A c o0 o1 o2 _ (HR.out.below HQ.out.bel) hm).mono ?_; rintro e w2 ⟨rfl, hb⟩
  have HQ := Lib.hid (HQ.out.below hb)
  clear hb cs
  cases v1
  · go_wp2_with fail
    refine (awake24_any _).mono ?_; rintro e w9 ⟨rfl, hb⟩
    have HQ := Lib.hid (HQ.out.below hb)
    clear hb
    go_wp2_with fail
    go_ret
    exact ⟨rfl, HQ.out.bel⟩
  have hl70 : l.length ≤ 70 := (fewS_small HFW.out).1
  have cs := HQ.out.sb.cell
  go_wp2_with fail
  by_cases hR : RightS rd l
  rotate_left
  · have HN := Lib.hid hR
    clear hR
    refine (refStRightV_any (v := false) (RightS.iffNo HN.out) A c o0 o1 o2 _ (HR.out.below HQ.out.bel) HW.out hm).mono ?_; rintro e w3 ⟨rfl, hb⟩
    have HQ := Lib.hid (HQ.out.below hb)
    clear hb cs
    go_wp2_with fail
    refine (awake24_any _).mono ?_; rintro e w9 ⟨rfl, hb⟩
    have HQ := Lib.hid (HQ.out.below hb)
    clear hb
    go_wp2_with fail
    go_ret
    exact ⟨rfl, HQ.out.bel⟩
  have HRS := Lib.hid hR
  clear hR
  refine (refStRightV_any (v := true) (RightS.iffYes HRS.out) A c o0 o1 o2 _ (HR.out.below HQ.out.bel) HW.out hm).mono ?_; rintro e w3 ⟨rfl, hb⟩
  have HQ := Lib.hid (HQ.out.below hb)
  have HSO := Lib.hid HRS.out.sorted
  clear hb cs
  have ce := HQ.out.eb.cell
  go_wp2_with fail
  obtain ⟨v2, hv2⟩ : ∃ v, e.pod.small = v := ⟨_, rfl⟩
  have HSM := Lib.hid hv2
  clear hv2
  refine (smallV_any HSM.out _).mono ?_; rintro x w4 ⟨rfl, hb⟩
  have HQ := Lib.hid (HQ.out.below hb)
  clear hb ce
  cases v2
  · go_wp2_with fail
    refine (awake24_any _).mono ?_; rintro e w9 ⟨rfl, hb⟩
    have HQ := Lib.hid (HQ.out.below hb)
    clear hb
    go_wp2_with fail
    go_ret
    exact ⟨rfl, HQ.out.bel⟩
  have ce := HQ.out.eb.cell
  go_wp2_with fail
  obtain ⟨v3, hv3⟩ : ∃ v, e.pod.right = v := ⟨_, rfl⟩
  have HER := Lib.hid hv3
  clear hv3
  refine (rightV_any HER.out _ HE.out.1).mono ?_; rintro x w5 ⟨rfl, hb⟩
  have HQ := Lib.hid (HQ.out.below hb)
  clear hb ce
  cases v3
  · go_wp2_with fail
    refine (awake24_any _).mono ?_; rintro e w9 ⟨rfl, hb⟩
    have HQ := Lib.hid (HQ.out.below hb)
    clear hb
    go_wp2_with fail
    go_ret
    exact ⟨rfl, HQ.out.bel⟩
  have ce := HQ.out.eb.cell
  by_cases hp1 : e.phase < 1
  · have d1 : decide (e.phase < 1) = true := decide_eq_true hp1
    clear hp1
    go_wp2_with fail
    refine (awake24_any _).mono ?_; rintro e w9 ⟨rfl, hb⟩
    have HQ := Lib.hid (HQ.out.below hb)
    clear hb
    go_wp2_with fail
    go_ret
    exact ⟨rfl, HQ.out.bel⟩
  have d1 : decide (e.phase < 1) = false := decide_eq_false hp1
  by_cases hp3 : 3 < e.phase
  · have d3 : decide (3 < e.phase) = true := decide_eq_true hp3
    clear hp1 hp3
    go_wp2_with fail
    refine (awake24_any _).mono ?_; rintro e w9 ⟨rfl, hb⟩
    have HQ := Lib.hid (HQ.out.below hb)
    clear hb
    go_wp2_with fail
    go_ret
    exact ⟨rfl, HQ.out.bel⟩
  have d3 : decide (3 < e.phase) = false := decide_eq_false hp3
  have HRE := Lib.hid (rightE_parts HER.out (by omega) (by omega))
  clear hp1 hp3
  by_cases hi60 : 60 < id.size
  · have d60 : decide ((60 : Int) < (id.size : Int)) = true := decide_eq_true (by omega)
    have d60n : decide (60 < id.size) = true := decide_eq_true hi60
    clear hi60
    go_wp2_with fail
    refine (awake24_any _).mono ?_; rintro e w9 ⟨rfl, hb⟩
    have HQ := Lib.hid (HQ.out.below hb)
    clear hb
    go_wp2_with fail
    go_ret
    exact ⟨rfl, HQ.out.bel⟩
  have d60 : decide ((60 : Int) < (id.size : Int)) = false := decide_eq_false (by omega)
  have d60n : decide (60 < id.size) = false := decide_eq_false hi60
  clear hi60
  have cs := HQ.out.sb.cell
  go_wp2_with fail
  refine (with_any rd l e A c o0 o1 o2 _ (HR.out.below HQ.out.bel) (by omega) HSO.out).mono ?_; rintro x w6 ⟨Aa, ca, rfl, ho, hb⟩
  have HLA := Lib.hid (withD_len HSO.out e)
  have HRA := Lib.hid (fun h => withD_right HRS.out HRE.out h)
  have HMA := Lib.hid (show ∀ x ∈ withD l e, x.pod.Wf from fun x hx => by
    rcases withD_mem HSO.out hx with rfl | hx
    · exact HE.out.1
    · exact HW.out x hx)
  have HW24 := Lib.hid (fun A c w => with24V (rd := rd) (e := e) HSO.out A c o0 o1 o2 w)
  generalize withD l e = LA at *
  have RA := Lib.hid (ho.toRds.alloc (.cells #[.int .i64 rd, .slice Aa LA.length ca, .bool o0, .bool o1, .bool o2] 25))
  have HA := Lib.hid (Blk.new w6 25 #[.int .i64 rd, .slice Aa LA.length ca, .bool o0, .bool o1, .bool o2])
  have HQ := Lib.hid (HQ.out.below hb)
  have HQ := Lib.hid (HQ.out.alloc (.cells #[.int .i64 rd, .slice Aa LA.length ca, .bool o0, .bool o1, .bool o2] 25))
  clear ho hb cs ce
  have cs := HQ.out.sb.cell
  go_wp2_with fail
  refine (without_any rd l id A c o0 o1 o2 _ (HR.out.below HQ.out.bel) (by omega) HSO.out).mono ?_; rintro x w7 ⟨Ab, cb, rfl, ho, hb⟩
  have HLB := Lib.hid (withoutS_len HSO.out id)
  have HRB := Lib.hid (withoutS_right HRS.out id)
  have HMB := Lib.hid (show ∀ x ∈ withoutS l id, x.pod.Wf from fun x hx => HW.out x (withoutS_mem HSO.out hx))
  have HX24 := Lib.hid (fun A c w => without24V (rd := rd) (s := id) HSO.out A c o0 o1 o2 w)
  generalize withoutS l id = LB at *
  have RB := Lib.hid (ho.toRds.alloc (.cells #[.int .i64 rd, .slice Ab LB.length cb, .bool o0, .bool o1, .bool o2] 25))
  have HBx := Lib.hid (Blk.new w7 25 #[.int .i64 rd, .slice Ab LB.length cb, .bool o0, .bool o1, .bool o2])
  have HQ := Lib.hid (HQ.out.below hb)
  have HA := Lib.hid (HA.out.belowAll hb)
  have RA := Lib.hid (RA.out.below hb)
  have HQ := Lib.hid (HQ.out.alloc (.cells #[.int .i64 rd, .slice Ab LB.length cb, .bool o0, .bool o1, .bool o2] 25))
  have HA := Lib.hid (HA.out.alloc (.cells #[.int .i64 rd, .slice Ab LB.length cb, .bool o0, .bool o1, .bool o2] 25))
  have RA := Lib.hid (RA.out.alloc (.cells #[.int .i64 rd, .slice Ab LB.length cb, .bool o0, .bool o1, .bool o2] 25))
  clear ho hb cs
  have cs := HQ.out.sb.cell
  go_wp2_with fail
  obtain ⟨⟨fi, fv⟩, hfi⟩ : ∃ v, findS l id = v := ⟨_, rfl⟩
  refine (find_any hfi rd A c o0 o1 o2 _ (HR.out.below HQ.out.bel) (by omega) HSO.out).mono ?_; rintro x w8 ⟨rfl, hb⟩
  have HQ := Lib.hid (HQ.out.below hb)
  have HA := Lib.hid (HA.out.belowAll hb)
  have RA := Lib.hid (RA.out.below hb)
  have HBx := Lib.hid (HBx.out.belowAll hb)
  have RB := Lib.hid (RB.out.below hb)
  clear hb cs
  have cs := HQ.out.sb.cell
  go_wp2_with fail
  obtain ⟨fk, hfk⟩ : ∃ v, findR l id = v := ⟨_, rfl⟩
  refine (find24_any hfk HSO.out rd A c o0 o1 o2 _ (HR.out.below HQ.out.bel) (by omega)).mono ?_; rintro x wa ⟨rfl, hb⟩
  have HQ := Lib.hid (HQ.out.below hb)
  have HA := Lib.hid (HA.out.belowAll hb)
  have RA := Lib.hid (RA.out.below hb)
  have HBx := Lib.hid (HBx.out.belowAll hb)
  have RB := Lib.hid (RB.out.below hb)
  clear hb cs
  cases hat : isAt l id
  · obtain ⟨rfl, rfl⟩ : (0 : Int) = fi ∧ false = fv := by unfold findS at hfi; rw [hat] at hfi; simpa using hfi
    obtain rfl : (-1 : Int) = fk := by unfold findR at hfk; rw [hat] at hfk; simpa using hfk
    clear hat hfi hfk
    by_cases hla : LA.length ≤ 64
    · have dl : decide ((LA.length : Int) ≤ 64) = true := decide_eq_true (by omega)
      have dln : decide (LA.length ≤ 64) = true := decide_eq_true hla
      have HRA2 := Lib.hid (HRA.out hla)
      clear hla
      have cax := HA.out.cell
      go_wp2_with fail
      refine (stRightV_any (v := true) (RightS.iffYes HRA2.out) Aa ca o0 o1 o2 _ RA.out HMA.out (by have := HLA.out; omega)).mono ?_; rintro x wb ⟨rfl, hb⟩
      have HQ := Lib.hid (HQ.out.below hb)
      have HA := Lib.hid (HA.out.belowAll hb)
      have RA := Lib.hid (RA.out.below hb)
      have HBx := Lib.hid (HBx.out.belowAll hb)
      have RB := Lib.hid (RB.out.below hb)
      clear hb cax
      have cbx := HBx.out.cell
      go_wp2_with fail
      refine (stRightV_any (v := true) (RightS.iffYes HRB.out) Ab cb o0 o1 o2 _ RB.out HMB.out (by have := HLB.out; omega)).mono ?_; rintro x wc ⟨rfl, hb⟩
      have HQ := Lib.hid (HQ.out.below hb)
      have HA := Lib.hid (HA.out.belowAll hb)
      have RA := Lib.hid (RA.out.below hb)
      have HBx := Lib.hid (HBx.out.belowAll hb)
      have RB := Lib.hid (RB.out.below hb)
      clear hb cbx
      go_wp2_with fail
      have HQ := Lib.hid HQ.out.drew
      have HA := Lib.hid HA.out.drew
      have RA := Lib.hid RA.out.drew
      have HBx := Lib.hid HBx.out.drew
      have RB := Lib.hid RB.out.drew
      refine wp_region_held_drew (S := (fun w' => w'.cell? ⟨w6.heap.size, 0, none⟩ = some (.int .i64 rd) ∧ w'.cell? ⟨w6.heap.size, 1, none⟩ = some (.slice Aa LA.length ca) ∧ w'.cell? ⟨w6.heap.size, 2, none⟩ = some (.bool o0) ∧ w'.cell? ⟨w6.heap.size, 3, none⟩ = some (.bool o1) ∧ w'.cell? ⟨w6.heap.size, 4, none⟩ = some (.bool o2) ∧ w'.cell? ⟨w7.heap.size, 0, none⟩ = some (.int .i64 rd) ∧ w'.cell? ⟨w7.heap.size, 1, none⟩ = some (.slice Ab LB.length cb) ∧ w'.cell? ⟨w7.heap.size, 2, none⟩ = some (.bool o0) ∧ w'.cell? ⟨w7.heap.size, 3, none⟩ = some (.bool o1) ∧ w'.cell? ⟨w7.heap.size, 4, none⟩ = some (.bool o2) ∧ w'.cell? ⟨w.heap.size, 0, none⟩ = some (.int .i64 rd) ∧ w'.cell? ⟨w.heap.size, 1, none⟩ = some (.slice A l.length c) ∧ w'.cell? ⟨w.heap.size, 2, none⟩ = some (.bool o0) ∧ w'.cell? ⟨w.heap.size, 3, none⟩ = some (.bool o1) ∧ w'.cell? ⟨w.heap.size, 4, none⟩ = some (.bool o2) ∧ w'.cell? ⟨w.heap.size + 1, 0, none⟩ = some (.string e.pod.id) ∧ w'.cell? ⟨w.heap.size + 1, 1, none⟩ = some (.int .i64 e.pod.prio) ∧ w'.cell? ⟨w.heap.size + 1, 2, none⟩ = some (.bool e.pod.crit) ∧ w'.cell? ⟨w.heap.size + 1, 3, none⟩ = some (.int .i64 e.pod.q0) ∧ w'.cell? ⟨w.heap.size + 1, 4, none⟩ = some (.int .i64 e.pod.q1) ∧ w'.cell? ⟨w.heap.size + 1, 5, none⟩ = some (.int .i64 e.pod.q2) ∧ w'.cell? ⟨w.heap.size + 1, 6, none⟩ = some (.int .i64 e.pod.l0) ∧ w'.cell? ⟨w.heap.size + 1, 7, none⟩ = some (.int .i64 e.pod.l1) ∧ w'.cell? ⟨w.heap.size + 1, 8, none⟩ = some (.int .i64 e.pod.l2) ∧ w'.cell? ⟨w.heap.size + 1, 9, none⟩ = some (.string e.pod.image) ∧ w'.cell? ⟨w.heap.size + 1, 10, none⟩ = some (.int .i64 e.pod.size) ∧ w'.cell? ⟨w.heap.size + 1, 11, none⟩ = some (.int .i64 e.phase))) (by kernel_rfl) (⟨HA.out.cell 0, HA.out.cell 1, HA.out.cell 2, HA.out.cell 3, HA.out.cell 4, HBx.out.cell 0, HBx.out.cell 1, HBx.out.cell 2, HBx.out.cell 3, HBx.out.cell 4, HQ.out.sb.cell 0, HQ.out.sb.cell 1, HQ.out.sb.cell 2, HQ.out.sb.cell 3, HQ.out.sb.cell 4, HQ.out.eb.cell 0, HQ.out.eb.cell 1, HQ.out.eb.cell 2, HQ.out.eb.cell 3, HQ.out.eb.cell 4, HQ.out.eb.cell 5, HQ.out.eb.cell 6, HQ.out.eb.cell 7, HQ.out.eb.cell 8, HQ.out.eb.cell 9, HQ.out.eb.cell 10, HQ.out.eb.cell 11⟩) (fun hHeld => ?_)
      refine held_take 0 101 (.agg #[.int .i64 rd, .slice Aa LA.length ca, .bool o0, .bool o1, .bool o2]) rfl rfl (by kernel_rfl) (by kernel_rfl) (by kernel_rfl) (fun _ _ _ h => h) (by rfl) (by intro w' hSw; (try dsimp only at hSw); go_simp; (try (with_reducible rfl))) (by assumption) ?_
      simp only [Act.put, List.setIfInBounds_toArray, List.set_cons_zero, List.set_cons_succ]
      refine held_take 1 102 (.agg #[.int .i64 rd, .slice A l.length c, .bool o0, .bool o1, .bool o2]) rfl rfl (by kernel_rfl) (by kernel_rfl) (by kernel_rfl) (fun _ _ _ h => h) (by rfl) (by intro w' hSw; (try dsimp only at hSw); go_simp; (try (with_reducible rfl))) (by assumption) ?_
      simp only [Act.put, List.setIfInBounds_toArray, List.set_cons_zero, List.set_cons_succ]
      refine held_take 2 103 (.agg #[.string e.pod.id, .int .i64 e.pod.prio, .bool e.pod.crit, .int .i64 e.pod.q0, .int .i64 e.pod.q1, .int .i64 e.pod.q2, .int .i64 e.pod.l0, .int .i64 e.pod.l1, .int .i64 e.pod.l2, .string e.pod.image, .int .i64 e.pod.size, .int .i64 e.phase]) rfl rfl (by kernel_rfl) (by kernel_rfl) (by kernel_rfl) (fun _ _ _ h => h) (by rfl) (by intro w' hSw; (try dsimp only at hSw); go_simp; (try (with_reducible rfl))) (by assumption) ?_
      simp only [Act.put, List.setIfInBounds_toArray, List.set_cons_zero, List.set_cons_succ]
      refine held_call 3 104 rfl rfl (by kernel_rfl) (by rfl) (fun K hK => ?_)
      go_simp
      go_at_call 27; (with_reducible refine (HW24.out A c _ (HR.out.below HQ.out.bel) (by omega)).mono ?_); rintro x wq ⟨A5, c5, rfl, ho, hb⟩
      have R5 := Lib.hid ho.toRds
      clear ho
      have HQ := Lib.hid (HQ.out.below hb)
      have HA := Lib.hid (HA.out.belowAll hb)
      have RA := Lib.hid (RA.out.below hb)
      have HBx := Lib.hid (HBx.out.belowAll hb)
      have RB := Lib.hid (RB.out.below hb)
      clear hb
      refine hK _ _ (⟨HA.out.cell 0, HA.out.cell 1, HA.out.cell 2, HA.out.cell 3, HA.out.cell 4, HBx.out.cell 0, HBx.out.cell 1, HBx.out.cell 2, HBx.out.cell 3, HBx.out.cell 4, HQ.out.sb.cell 0, HQ.out.sb.cell 1, HQ.out.sb.cell 2, HQ.out.sb.cell 3, HQ.out.sb.cell 4, HQ.out.eb.cell 0, HQ.out.eb.cell 1, HQ.out.eb.cell 2, HQ.out.eb.cell 3, HQ.out.eb.cell 4, HQ.out.eb.cell 5, HQ.out.eb.cell 6, HQ.out.eb.cell 7, HQ.out.eb.cell 8, HQ.out.eb.cell 9, HQ.out.eb.cell 10, HQ.out.eb.cell 11⟩) ?_
      have hHeld := (show wq.cell? ⟨w6.heap.size, 0, none⟩ = some (.int .i64 rd) ∧ wq.cell? ⟨w6.heap.size, 1, none⟩ = some (.slice Aa LA.length ca) ∧ wq.cell? ⟨w6.heap.size, 2, none⟩ = some (.bool o0) ∧ wq.cell? ⟨w6.heap.size, 3, none⟩ = some (.bool o1) ∧ wq.cell? ⟨w6.heap.size, 4, none⟩ = some (.bool o2) ∧ wq.cell? ⟨w7.heap.size, 0, none⟩ = some (.int .i64 rd) ∧ wq.cell? ⟨w7.heap.size, 1, none⟩ = some (.slice Ab LB.length cb) ∧ wq.cell? ⟨w7.heap.size, 2, none⟩ = some (.bool o0) ∧ wq.cell? ⟨w7.heap.size, 3, none⟩ = some (.bool o1) ∧ wq.cell? ⟨w7.heap.size, 4, none⟩ = some (.bool o2) ∧ wq.cell? ⟨w.heap.size, 0, none⟩ = some (.int .i64 rd) ∧ wq.cell? ⟨w.heap.size, 1, none⟩ = some (.slice A l.length c) ∧ wq.cell? ⟨w.heap.size, 2, none⟩ = some (.bool o0) ∧ wq.cell? ⟨w.heap.size, 3, none⟩ = some (.bool o1) ∧ wq.cell? ⟨w.heap.size, 4, none⟩ = some (.bool o2) ∧ wq.cell? ⟨w.heap.size + 1, 0, none⟩ = some (.string e.pod.id) ∧ wq.cell? ⟨w.heap.size + 1, 1, none⟩ = some (.int .i64 e.pod.prio) ∧ wq.cell? ⟨w.heap.size + 1, 2, none⟩ = some (.bool e.pod.crit) ∧ wq.cell? ⟨w.heap.size + 1, 3, none⟩ = some (.int .i64 e.pod.q0) ∧ wq.cell? ⟨w.heap.size + 1, 4, none⟩ = some (.int .i64 e.pod.q1) ∧ wq.cell? ⟨w.heap.size + 1, 5, none⟩ = some (.int .i64 e.pod.q2) ∧ wq.cell? ⟨w.heap.size + 1, 6, none⟩ = some (.int .i64 e.pod.l0) ∧ wq.cell? ⟨w.heap.size + 1, 7, none⟩ = some (.int .i64 e.pod.l1) ∧ wq.cell? ⟨w.heap.size + 1, 8, none⟩ = some (.int .i64 e.pod.l2) ∧ wq.cell? ⟨w.heap.size + 1, 9, none⟩ = some (.string e.pod.image) ∧ wq.cell? ⟨w.heap.size + 1, 10, none⟩ = some (.int .i64 e.pod.size) ∧ wq.cell? ⟨w.heap.size + 1, 11, none⟩ = some (.int .i64 e.phase) from ⟨HA.out.cell 0, HA.out.cell 1, HA.out.cell 2, HA.out.cell 3, HA.out.cell 4, HBx.out.cell 0, HBx.out.cell 1, HBx.out.cell 2, HBx.out.cell 3, HBx.out.cell 4, HQ.out.sb.cell 0, HQ.out.sb.cell 1, HQ.out.sb.cell 2, HQ.out.sb.cell 3, HQ.out.sb.cell 4, HQ.out.eb.cell 0, HQ.out.eb.cell 1, HQ.out.eb.cell 2, HQ.out.eb.cell 3, HQ.out.eb.cell 4, HQ.out.eb.cell 5, HQ.out.eb.cell 6, HQ.out.eb.cell 7, HQ.out.eb.cell 8, HQ.out.eb.cell 9, HQ.out.eb.cell 10, HQ.out.eb.cell 11⟩)
      clear hK K
      simp only [Act.put, List.setIfInBounds_toArray, List.set_cons_zero, List.set_cons_succ]
      refine held_call 4 105 rfl rfl (by kernel_rfl) (by rfl) (fun K hK => ?_)
      go_simp
      go_at_call 20; (with_reducible refine (same24_any rd LA Aa A5 ca c5 o0 o1 o2 _ RA.out R5.out (by have := HLA.out; omega)).mono ?_); rintro x wq ⟨rfl, hb⟩
      clear R5
      have HQ := Lib.hid (HQ.out.below hb)
      have HA := Lib.hid (HA.out.belowAll hb)
      have RA := Lib.hid (RA.out.below hb)
      have HBx := Lib.hid (HBx.out.belowAll hb)
      have RB := Lib.hid (RB.out.below hb)
      clear hb
      refine hK _ _ (⟨HA.out.cell 0, HA.out.cell 1, HA.out.cell 2, HA.out.cell 3, HA.out.cell 4, HBx.out.cell 0, HBx.out.cell 1, HBx.out.cell 2, HBx.out.cell 3, HBx.out.cell 4, HQ.out.sb.cell 0, HQ.out.sb.cell 1, HQ.out.sb.cell 2, HQ.out.sb.cell 3, HQ.out.sb.cell 4, HQ.out.eb.cell 0, HQ.out.eb.cell 1, HQ.out.eb.cell 2, HQ.out.eb.cell 3, HQ.out.eb.cell 4, HQ.out.eb.cell 5, HQ.out.eb.cell 6, HQ.out.eb.cell 7, HQ.out.eb.cell 8, HQ.out.eb.cell 9, HQ.out.eb.cell 10, HQ.out.eb.cell 11⟩) ?_
      have hHeld := (show wq.cell? ⟨w6.heap.size, 0, none⟩ = some (.int .i64 rd) ∧ wq.cell? ⟨w6.heap.size, 1, none⟩ = some (.slice Aa LA.length ca) ∧ wq.cell? ⟨w6.heap.size, 2, none⟩ = some (.bool o0) ∧ wq.cell? ⟨w6.heap.size, 3, none⟩ = some (.bool o1) ∧ wq.cell? ⟨w6.heap.size, 4, none⟩ = some (.bool o2) ∧ wq.cell? ⟨w7.heap.size, 0, none⟩ = some (.int .i64 rd) ∧ wq.cell? ⟨w7.heap.size, 1, none⟩ = some (.slice Ab LB.length cb) ∧ wq.cell? ⟨w7.heap.size, 2, none⟩ = some (.bool o0) ∧ wq.cell? ⟨w7.heap.size, 3, none⟩ = some (.bool o1) ∧ wq.cell? ⟨w7.heap.size, 4, none⟩ = some (.bool o2) ∧ wq.cell? ⟨w.heap.size, 0, none⟩ = some (.int .i64 rd) ∧ wq.cell? ⟨w.heap.size, 1, none⟩ = some (.slice A l.length c) ∧ wq.cell? ⟨w.heap.size, 2, none⟩ = some (.bool o0) ∧ wq.cell? ⟨w.heap.size, 3, none⟩ = some (.bool o1) ∧ wq.cell? ⟨w.heap.size, 4, none⟩ = some (.bool o2) ∧ wq.cell? ⟨w.heap.size + 1, 0, none⟩ = some (.string e.pod.id) ∧ wq.cell? ⟨w.heap.size + 1, 1, none⟩ = some (.int .i64 e.pod.prio) ∧ wq.cell? ⟨w.heap.size + 1, 2, none⟩ = some (.bool e.pod.crit) ∧ wq.cell? ⟨w.heap.size + 1, 3, none⟩ = some (.int .i64 e.pod.q0) ∧ wq.cell? ⟨w.heap.size + 1, 4, none⟩ = some (.int .i64 e.pod.q1) ∧ wq.cell? ⟨w.heap.size + 1, 5, none⟩ = some (.int .i64 e.pod.q2) ∧ wq.cell? ⟨w.heap.size + 1, 6, none⟩ = some (.int .i64 e.pod.l0) ∧ wq.cell? ⟨w.heap.size + 1, 7, none⟩ = some (.int .i64 e.pod.l1) ∧ wq.cell? ⟨w.heap.size + 1, 8, none⟩ = some (.int .i64 e.pod.l2) ∧ wq.cell? ⟨w.heap.size + 1, 9, none⟩ = some (.string e.pod.image) ∧ wq.cell? ⟨w.heap.size + 1, 10, none⟩ = some (.int .i64 e.pod.size) ∧ wq.cell? ⟨w.heap.size + 1, 11, none⟩ = some (.int .i64 e.phase) from ⟨HA.out.cell 0, HA.out.cell 1, HA.out.cell 2, HA.out.cell 3, HA.out.cell 4, HBx.out.cell 0, HBx.out.cell 1, HBx.out.cell 2, HBx.out.cell 3, HBx.out.cell 4, HQ.out.sb.cell 0, HQ.out.sb.cell 1, HQ.out.sb.cell 2, HQ.out.sb.cell 3, HQ.out.sb.cell 4, HQ.out.eb.cell 0, HQ.out.eb.cell 1, HQ.out.eb.cell 2, HQ.out.eb.cell 3, HQ.out.eb.cell 4, HQ.out.eb.cell 5, HQ.out.eb.cell 6, HQ.out.eb.cell 7, HQ.out.eb.cell 8, HQ.out.eb.cell 9, HQ.out.eb.cell 10, HQ.out.eb.cell 11⟩)
      clear hK K
      simp only [Act.put, List.setIfInBounds_toArray, List.set_cons_zero, List.set_cons_succ]
      refine held_take 5 106 (.bool true) rfl rfl (by kernel_rfl) (by kernel_rfl) (by kernel_rfl) (fun _ _ _ h => h) (by rfl) (by intro w' hSw; (try dsimp only at hSw); go_simp; (try (with_reducible rfl))) (by assumption) ?_
      simp only [Act.put, List.setIfInBounds_toArray, List.set_cons_zero, List.set_cons_succ]
      refine held_take 6 107 (.agg #[.int .i64 rd, .slice Ab LB.length cb, .bool o0, .bool o1, .bool o2]) rfl rfl (by kernel_rfl) (by kernel_rfl) (by kernel_rfl) (fun _ _ _ h => h) (by rfl) (by intro w' hSw; (try dsimp only at hSw); go_simp; (try (with_reducible rfl))) (by assumption) ?_
      simp only [Act.put, List.setIfInBounds_toArray, List.set_cons_zero, List.set_cons_succ]
      refine held_take 7 108 (.agg #[.int .i64 rd, .slice A l.length c, .bool o0, .bool o1, .bool o2]) rfl rfl (by kernel_rfl) (by kernel_rfl) (by kernel_rfl) (fun _ _ _ h => h) (by rfl) (by intro w' hSw; (try dsimp only at hSw); go_simp; (try (with_reducible rfl))) (by assumption) ?_
      simp only [Act.put, List.setIfInBounds_toArray, List.set_cons_zero, List.set_cons_succ]
      refine held_take 8 109 (.string id) rfl rfl (by kernel_rfl) (by kernel_rfl) (by kernel_rfl) (fun _ _ _ h => h) (by rfl) (by intro w' hSw; (try dsimp only at hSw); go_simp; (try (with_reducible rfl))) (by assumption) ?_
      simp only [Act.put, List.setIfInBounds_toArray, List.set_cons_zero, List.set_cons_succ]
      refine held_call 9 110 rfl rfl (by kernel_rfl) (by rfl) (fun K hK => ?_)
      go_simp
      go_at_call 28; (with_reducible refine (HX24.out A c _ (HR.out.below HQ.out.bel) (by omega)).mono ?_); rintro x wq ⟨A6, c6, rfl, ho, hb⟩
      have R6 := Lib.hid ho.toRds
      clear ho
      have HQ := Lib.hid (HQ.out.below hb)
      have HA := Lib.hid (HA.out.belowAll hb)
      have RA := Lib.hid (RA.out.below hb)
      have HBx := Lib.hid (HBx.out.belowAll hb)
      have RB := Lib.hid (RB.out.below hb)
      clear hb
      refine hK _ _ (⟨HA.out.cell 0, HA.out.cell 1, HA.out.cell 2, HA.out.cell 3, HA.out.cell 4, HBx.out.cell 0, HBx.out.cell 1, HBx.out.cell 2, HBx.out.cell 3, HBx.out.cell 4, HQ.out.sb.cell 0, HQ.out.sb.cell 1, HQ.out.sb.cell 2, HQ.out.sb.cell 3, HQ.out.sb.cell 4, HQ.out.eb.cell 0, HQ.out.eb.cell 1, HQ.out.eb.cell 2, HQ.out.eb.cell 3, HQ.out.eb.cell 4, HQ.out.eb.cell 5, HQ.out.eb.cell 6, HQ.out.eb.cell 7, HQ.out.eb.cell 8, HQ.out.eb.cell 9, HQ.out.eb.cell 10, HQ.out.eb.cell 11⟩) ?_
      have hHeld := (show wq.cell? ⟨w6.heap.size, 0, none⟩ = some (.int .i64 rd) ∧ wq.cell? ⟨w6.heap.size, 1, none⟩ = some (.slice Aa LA.length ca) ∧ wq.cell? ⟨w6.heap.size, 2, none⟩ = some (.bool o0) ∧ wq.cell? ⟨w6.heap.size, 3, none⟩ = some (.bool o1) ∧ wq.cell? ⟨w6.heap.size, 4, none⟩ = some (.bool o2) ∧ wq.cell? ⟨w7.heap.size, 0, none⟩ = some (.int .i64 rd) ∧ wq.cell? ⟨w7.heap.size, 1, none⟩ = some (.slice Ab LB.length cb) ∧ wq.cell? ⟨w7.heap.size, 2, none⟩ = some (.bool o0) ∧ wq.cell? ⟨w7.heap.size, 3, none⟩ = some (.bool o1) ∧ wq.cell? ⟨w7.heap.size, 4, none⟩ = some (.bool o2) ∧ wq.cell? ⟨w.heap.size, 0, none⟩ = some (.int .i64 rd) ∧ wq.cell? ⟨w.heap.size, 1, none⟩ = some (.slice A l.length c) ∧ wq.cell? ⟨w.heap.size, 2, none⟩ = some (.bool o0) ∧ wq.cell? ⟨w.heap.size, 3, none⟩ = some (.bool o1) ∧ wq.cell? ⟨w.heap.size, 4, none⟩ = some (.bool o2) ∧ wq.cell? ⟨w.heap.size + 1, 0, none⟩ = some (.string e.pod.id) ∧ wq.cell? ⟨w.heap.size + 1, 1, none⟩ = some (.int .i64 e.pod.prio) ∧ wq.cell? ⟨w.heap.size + 1, 2, none⟩ = some (.bool e.pod.crit) ∧ wq.cell? ⟨w.heap.size + 1, 3, none⟩ = some (.int .i64 e.pod.q0) ∧ wq.cell? ⟨w.heap.size + 1, 4, none⟩ = some (.int .i64 e.pod.q1) ∧ wq.cell? ⟨w.heap.size + 1, 5, none⟩ = some (.int .i64 e.pod.q2) ∧ wq.cell? ⟨w.heap.size + 1, 6, none⟩ = some (.int .i64 e.pod.l0) ∧ wq.cell? ⟨w.heap.size + 1, 7, none⟩ = some (.int .i64 e.pod.l1) ∧ wq.cell? ⟨w.heap.size + 1, 8, none⟩ = some (.int .i64 e.pod.l2) ∧ wq.cell? ⟨w.heap.size + 1, 9, none⟩ = some (.string e.pod.image) ∧ wq.cell? ⟨w.heap.size + 1, 10, none⟩ = some (.int .i64 e.pod.size) ∧ wq.cell? ⟨w.heap.size + 1, 11, none⟩ = some (.int .i64 e.phase) from ⟨HA.out.cell 0, HA.out.cell 1, HA.out.cell 2, HA.out.cell 3, HA.out.cell 4, HBx.out.cell 0, HBx.out.cell 1, HBx.out.cell 2, HBx.out.cell 3, HBx.out.cell 4, HQ.out.sb.cell 0, HQ.out.sb.cell 1, HQ.out.sb.cell 2, HQ.out.sb.cell 3, HQ.out.sb.cell 4, HQ.out.eb.cell 0, HQ.out.eb.cell 1, HQ.out.eb.cell 2, HQ.out.eb.cell 3, HQ.out.eb.cell 4, HQ.out.eb.cell 5, HQ.out.eb.cell 6, HQ.out.eb.cell 7, HQ.out.eb.cell 8, HQ.out.eb.cell 9, HQ.out.eb.cell 10, HQ.out.eb.cell 11⟩)
      clear hK K
      simp only [Act.put, List.setIfInBounds_toArray, List.set_cons_zero, List.set_cons_succ]
      refine held_call 10 111 rfl rfl (by kernel_rfl) (by rfl) (fun K hK => ?_)
      go_simp
      go_at_call 20; (with_reducible refine (same24_any rd LB Ab A6 cb c6 o0 o1 o2 _ RB.out R6.out (by have := HLB.out; omega)).mono ?_); rintro x wq ⟨rfl, hb⟩
      clear R6
      have HQ := Lib.hid (HQ.out.below hb)
      have HA := Lib.hid (HA.out.belowAll hb)
      have RA := Lib.hid (RA.out.below hb)
      have HBx := Lib.hid (HBx.out.belowAll hb)
      have RB := Lib.hid (RB.out.below hb)
      clear hb
      refine hK _ _ (⟨HA.out.cell 0, HA.out.cell 1, HA.out.cell 2, HA.out.cell 3, HA.out.cell 4, HBx.out.cell 0, HBx.out.cell 1, HBx.out.cell 2, HBx.out.cell 3, HBx.out.cell 4, HQ.out.sb.cell 0, HQ.out.sb.cell 1, HQ.out.sb.cell 2, HQ.out.sb.cell 3, HQ.out.sb.cell 4, HQ.out.eb.cell 0, HQ.out.eb.cell 1, HQ.out.eb.cell 2, HQ.out.eb.cell 3, HQ.out.eb.cell 4, HQ.out.eb.cell 5, HQ.out.eb.cell 6, HQ.out.eb.cell 7, HQ.out.eb.cell 8, HQ.out.eb.cell 9, HQ.out.eb.cell 10, HQ.out.eb.cell 11⟩) ?_
      have hHeld := (show wq.cell? ⟨w6.heap.size, 0, none⟩ = some (.int .i64 rd) ∧ wq.cell? ⟨w6.heap.size, 1, none⟩ = some (.slice Aa LA.length ca) ∧ wq.cell? ⟨w6.heap.size, 2, none⟩ = some (.bool o0) ∧ wq.cell? ⟨w6.heap.size, 3, none⟩ = some (.bool o1) ∧ wq.cell? ⟨w6.heap.size, 4, none⟩ = some (.bool o2) ∧ wq.cell? ⟨w7.heap.size, 0, none⟩ = some (.int .i64 rd) ∧ wq.cell? ⟨w7.heap.size, 1, none⟩ = some (.slice Ab LB.length cb) ∧ wq.cell? ⟨w7.heap.size, 2, none⟩ = some (.bool o0) ∧ wq.cell? ⟨w7.heap.size, 3, none⟩ = some (.bool o1) ∧ wq.cell? ⟨w7.heap.size, 4, none⟩ = some (.bool o2) ∧ wq.cell? ⟨w.heap.size, 0, none⟩ = some (.int .i64 rd) ∧ wq.cell? ⟨w.heap.size, 1, none⟩ = some (.slice A l.length c) ∧ wq.cell? ⟨w.heap.size, 2, none⟩ = some (.bool o0) ∧ wq.cell? ⟨w.heap.size, 3, none⟩ = some (.bool o1) ∧ wq.cell? ⟨w.heap.size, 4, none⟩ = some (.bool o2) ∧ wq.cell? ⟨w.heap.size + 1, 0, none⟩ = some (.string e.pod.id) ∧ wq.cell? ⟨w.heap.size + 1, 1, none⟩ = some (.int .i64 e.pod.prio) ∧ wq.cell? ⟨w.heap.size + 1, 2, none⟩ = some (.bool e.pod.crit) ∧ wq.cell? ⟨w.heap.size + 1, 3, none⟩ = some (.int .i64 e.pod.q0) ∧ wq.cell? ⟨w.heap.size + 1, 4, none⟩ = some (.int .i64 e.pod.q1) ∧ wq.cell? ⟨w.heap.size + 1, 5, none⟩ = some (.int .i64 e.pod.q2) ∧ wq.cell? ⟨w.heap.size + 1, 6, none⟩ = some (.int .i64 e.pod.l0) ∧ wq.cell? ⟨w.heap.size + 1, 7, none⟩ = some (.int .i64 e.pod.l1) ∧ wq.cell? ⟨w.heap.size + 1, 8, none⟩ = some (.int .i64 e.pod.l2) ∧ wq.cell? ⟨w.heap.size + 1, 9, none⟩ = some (.string e.pod.image) ∧ wq.cell? ⟨w.heap.size + 1, 10, none⟩ = some (.int .i64 e.pod.size) ∧ wq.cell? ⟨w.heap.size + 1, 11, none⟩ = some (.int .i64 e.phase) from ⟨HA.out.cell 0, HA.out.cell 1, HA.out.cell 2, HA.out.cell 3, HA.out.cell 4, HBx.out.cell 0, HBx.out.cell 1, HBx.out.cell 2, HBx.out.cell 3, HBx.out.cell 4, HQ.out.sb.cell 0, HQ.out.sb.cell 1, HQ.out.sb.cell 2, HQ.out.sb.cell 3, HQ.out.sb.cell 4, HQ.out.eb.cell 0, HQ.out.eb.cell 1, HQ.out.eb.cell 2, HQ.out.eb.cell 3, HQ.out.eb.cell 4, HQ.out.eb.cell 5, HQ.out.eb.cell 6, HQ.out.eb.cell 7, HQ.out.eb.cell 8, HQ.out.eb.cell 9, HQ.out.eb.cell 10, HQ.out.eb.cell 11⟩)
      clear hK K
      simp only [Act.put, List.setIfInBounds_toArray, List.set_cons_zero, List.set_cons_succ]
      refine held_take 11 112 (.bool true) rfl rfl (by kernel_rfl) (by kernel_rfl) (by kernel_rfl) (fun _ _ _ h => h) (by rfl) (by intro w' hSw; (try dsimp only at hSw); go_simp; (try (with_reducible rfl))) (by assumption) ?_
      simp only [Act.put, List.setIfInBounds_toArray, List.set_cons_zero, List.set_cons_succ]
      refine held_take 12 6 (.bool true) rfl rfl (by kernel_rfl) (by kernel_rfl) (by kernel_rfl) (fun _ _ _ h => h) (by rfl) (by intro w' hSw; (try dsimp only at hSw); go_simp; (try (with_reducible rfl))) (by assumption) ?_
      simp only [Act.put, List.setIfInBounds_toArray, List.set_cons_zero, List.set_cons_succ]
      refine wpAnyH_done (by kernel_rfl) ?_ _
      clear hHeld
      go_wp2_with fail
      go_ret
      exact ⟨rfl, HQ.out.bel⟩
    · have dl : decide ((LA.length : Int) ≤ 64) = false := decide_eq_false (by omega)
      have dln : decide (LA.length ≤ 64) = false := decide_eq_false hla
      clear hla
      have cax := HA.out.cell
      have cbx := HBx.out.cell
      go_wp2_with fail
      refine (stRightV_any (v := true) (RightS.iffYes HRB.out) Ab cb o0 o1 o2 _ RB.out HMB.out (by have := HLB.out; omega)).mono ?_; rintro x wc ⟨rfl, hb⟩
      have HQ := Lib.hid (HQ.out.below hb)
      have HA := Lib.hid (HA.out.belowAll hb)
      have RA := Lib.hid (RA.out.below hb)
      have HBx := Lib.hid (HBx.out.belowAll hb)
      have RB := Lib.hid (RB.out.below hb)
      clear hb cbx cax
      go_wp2_with fail
      have HQ := Lib.hid HQ.out.drew
      have HA := Lib.hid HA.out.drew
      have RA := Lib.hid RA.out.drew
      have HBx := Lib.hid HBx.out.drew
      have RB := Lib.hid RB.out.drew
      refine wp_region_held_drew (S := (fun w' => w'.cell? ⟨w6.heap.size, 0, none⟩ = some (.int .i64 rd) ∧ w'.cell? ⟨w6.heap.size, 1, none⟩ = some (.slice Aa LA.length ca) ∧ w'.cell? ⟨w6.heap.size, 2, none⟩ = some (.bool o0) ∧ w'.cell? ⟨w6.heap.size, 3, none⟩ = some (.bool o1) ∧ w'.cell? ⟨w6.heap.size, 4, none⟩ = some (.bool o2) ∧ w'.cell? ⟨w7.heap.size, 0, none⟩ = some (.int .i64 rd) ∧ w'.cell? ⟨w7.heap.size, 1, none⟩ = some (.slice Ab LB.length cb) ∧ w'.cell? ⟨w7.heap.size, 2, none⟩ = some (.bool o0) ∧ w'.cell? ⟨w7.heap.size, 3, none⟩ = some (.bool o1) ∧ w'.cell? ⟨w7.heap.size, 4, none⟩ = some (.bool o2) ∧ w'.cell? ⟨w.heap.size, 0, none⟩ = some (.int .i64 rd) ∧ w'.cell? ⟨w.heap.size, 1, none⟩ = some (.slice A l.length c) ∧ w'.cell? ⟨w.heap.size, 2, none⟩ = some (.bool o0) ∧ w'.cell? ⟨w.heap.size, 3, none⟩ = some (.bool o1) ∧ w'.cell? ⟨w.heap.size, 4, none⟩ = some (.bool o2) ∧ w'.cell? ⟨w.heap.size + 1, 0, none⟩ = some (.string e.pod.id) ∧ w'.cell? ⟨w.heap.size + 1, 1, none⟩ = some (.int .i64 e.pod.prio) ∧ w'.cell? ⟨w.heap.size + 1, 2, none⟩ = some (.bool e.pod.crit) ∧ w'.cell? ⟨w.heap.size + 1, 3, none⟩ = some (.int .i64 e.pod.q0) ∧ w'.cell? ⟨w.heap.size + 1, 4, none⟩ = some (.int .i64 e.pod.q1) ∧ w'.cell? ⟨w.heap.size + 1, 5, none⟩ = some (.int .i64 e.pod.q2) ∧ w'.cell? ⟨w.heap.size + 1, 6, none⟩ = some (.int .i64 e.pod.l0) ∧ w'.cell? ⟨w.heap.size + 1, 7, none⟩ = some (.int .i64 e.pod.l1) ∧ w'.cell? ⟨w.heap.size + 1, 8, none⟩ = some (.int .i64 e.pod.l2) ∧ w'.cell? ⟨w.heap.size + 1, 9, none⟩ = some (.string e.pod.image) ∧ w'.cell? ⟨w.heap.size + 1, 10, none⟩ = some (.int .i64 e.pod.size) ∧ w'.cell? ⟨w.heap.size + 1, 11, none⟩ = some (.int .i64 e.phase))) (by kernel_rfl) (⟨HA.out.cell 0, HA.out.cell 1, HA.out.cell 2, HA.out.cell 3, HA.out.cell 4, HBx.out.cell 0, HBx.out.cell 1, HBx.out.cell 2, HBx.out.cell 3, HBx.out.cell 4, HQ.out.sb.cell 0, HQ.out.sb.cell 1, HQ.out.sb.cell 2, HQ.out.sb.cell 3, HQ.out.sb.cell 4, HQ.out.eb.cell 0, HQ.out.eb.cell 1, HQ.out.eb.cell 2, HQ.out.eb.cell 3, HQ.out.eb.cell 4, HQ.out.eb.cell 5, HQ.out.eb.cell 6, HQ.out.eb.cell 7, HQ.out.eb.cell 8, HQ.out.eb.cell 9, HQ.out.eb.cell 10, HQ.out.eb.cell 11⟩) (fun hHeld => ?_)
      refine held_take 0 101 (.agg #[.int .i64 rd, .slice Aa LA.length ca, .bool o0, .bool o1, .bool o2]) rfl rfl (by kernel_rfl) (by kernel_rfl) (by kernel_rfl) (fun _ _ _ h => h) (by rfl) (by intro w' hSw; (try dsimp only at hSw); go_simp; (try (with_reducible rfl))) (by assumption) ?_
      simp only [Act.put, List.setIfInBounds_toArray, List.set_cons_zero, List.set_cons_succ]
      refine held_take 1 102 (.agg #[.int .i64 rd, .slice A l.length c, .bool o0, .bool o1, .bool o2]) rfl rfl (by kernel_rfl) (by kernel_rfl) (by kernel_rfl) (fun _ _ _ h => h) (by rfl) (by intro w' hSw; (try dsimp only at hSw); go_simp; (try (with_reducible rfl))) (by assumption) ?_
      simp only [Act.put, List.setIfInBounds_toArray, List.set_cons_zero, List.set_cons_succ]
      refine held_take 2 103 (.agg #[.string e.pod.id, .int .i64 e.pod.prio, .bool e.pod.crit, .int .i64 e.pod.q0, .int .i64 e.pod.q1, .int .i64 e.pod.q2, .int .i64 e.pod.l0, .int .i64 e.pod.l1, .int .i64 e.pod.l2, .string e.pod.image, .int .i64 e.pod.size, .int .i64 e.phase]) rfl rfl (by kernel_rfl) (by kernel_rfl) (by kernel_rfl) (fun _ _ _ h => h) (by rfl) (by intro w' hSw; (try dsimp only at hSw); go_simp; (try (with_reducible rfl))) (by assumption) ?_
      simp only [Act.put, List.setIfInBounds_toArray, List.set_cons_zero, List.set_cons_succ]
      refine held_call 3 104 rfl rfl (by kernel_rfl) (by rfl) (fun K hK => ?_)
      go_simp
      go_at_call 27; (with_reducible refine (HW24.out A c _ (HR.out.below HQ.out.bel) (by omega)).mono ?_); rintro x wq ⟨A5, c5, rfl, ho, hb⟩
      have R5 := Lib.hid ho.toRds
      clear ho
      have HQ := Lib.hid (HQ.out.below hb)
      have HA := Lib.hid (HA.out.belowAll hb)
      have RA := Lib.hid (RA.out.below hb)
      have HBx := Lib.hid (HBx.out.belowAll hb)
      have RB := Lib.hid (RB.out.below hb)
      clear hb
      refine hK _ _ (⟨HA.out.cell 0, HA.out.cell 1, HA.out.cell 2, HA.out.cell 3, HA.out.cell 4, HBx.out.cell 0, HBx.out.cell 1, HBx.out.cell 2, HBx.out.cell 3, HBx.out.cell 4, HQ.out.sb.cell 0, HQ.out.sb.cell 1, HQ.out.sb.cell 2, HQ.out.sb.cell 3, HQ.out.sb.cell 4, HQ.out.eb.cell 0, HQ.out.eb.cell 1, HQ.out.eb.cell 2, HQ.out.eb.cell 3, HQ.out.eb.cell 4, HQ.out.eb.cell 5, HQ.out.eb.cell 6, HQ.out.eb.cell 7, HQ.out.eb.cell 8, HQ.out.eb.cell 9, HQ.out.eb.cell 10, HQ.out.eb.cell 11⟩) ?_
      have hHeld := (show wq.cell? ⟨w6.heap.size, 0, none⟩ = some (.int .i64 rd) ∧ wq.cell? ⟨w6.heap.size, 1, none⟩ = some (.slice Aa LA.length ca) ∧ wq.cell? ⟨w6.heap.size, 2, none⟩ = some (.bool o0) ∧ wq.cell? ⟨w6.heap.size, 3, none⟩ = some (.bool o1) ∧ wq.cell? ⟨w6.heap.size, 4, none⟩ = some (.bool o2) ∧ wq.cell? ⟨w7.heap.size, 0, none⟩ = some (.int .i64 rd) ∧ wq.cell? ⟨w7.heap.size, 1, none⟩ = some (.slice Ab LB.length cb) ∧ wq.cell? ⟨w7.heap.size, 2, none⟩ = some (.bool o0) ∧ wq.cell? ⟨w7.heap.size, 3, none⟩ = some (.bool o1) ∧ wq.cell? ⟨w7.heap.size, 4, none⟩ = some (.bool o2) ∧ wq.cell? ⟨w.heap.size, 0, none⟩ = some (.int .i64 rd) ∧ wq.cell? ⟨w.heap.size, 1, none⟩ = some (.slice A l.length c) ∧ wq.cell? ⟨w.heap.size, 2, none⟩ = some (.bool o0) ∧ wq.cell? ⟨w.heap.size, 3, none⟩ = some (.bool o1) ∧ wq.cell? ⟨w.heap.size, 4, none⟩ = some (.bool o2) ∧ wq.cell? ⟨w.heap.size + 1, 0, none⟩ = some (.string e.pod.id) ∧ wq.cell? ⟨w.heap.size + 1, 1, none⟩ = some (.int .i64 e.pod.prio) ∧ wq.cell? ⟨w.heap.size + 1, 2, none⟩ = some (.bool e.pod.crit) ∧ wq.cell? ⟨w.heap.size + 1, 3, none⟩ = some (.int .i64 e.pod.q0) ∧ wq.cell? ⟨w.heap.size + 1, 4, none⟩ = some (.int .i64 e.pod.q1) ∧ wq.cell? ⟨w.heap.size + 1, 5, none⟩ = some (.int .i64 e.pod.q2) ∧ wq.cell? ⟨w.heap.size + 1, 6, none⟩ = some (.int .i64 e.pod.l0) ∧ wq.cell? ⟨w.heap.size + 1, 7, none⟩ = some (.int .i64 e.pod.l1) ∧ wq.cell? ⟨w.heap.size + 1, 8, none⟩ = some (.int .i64 e.pod.l2) ∧ wq.cell? ⟨w.heap.size + 1, 9, none⟩ = some (.string e.pod.image) ∧ wq.cell? ⟨w.heap.size + 1, 10, none⟩ = some (.int .i64 e.pod.size) ∧ wq.cell? ⟨w.heap.size + 1, 11, none⟩ = some (.int .i64 e.phase) from ⟨HA.out.cell 0, HA.out.cell 1, HA.out.cell 2, HA.out.cell 3, HA.out.cell 4, HBx.out.cell 0, HBx.out.cell 1, HBx.out.cell 2, HBx.out.cell 3, HBx.out.cell 4, HQ.out.sb.cell 0, HQ.out.sb.cell 1, HQ.out.sb.cell 2, HQ.out.sb.cell 3, HQ.out.sb.cell 4, HQ.out.eb.cell 0, HQ.out.eb.cell 1, HQ.out.eb.cell 2, HQ.out.eb.cell 3, HQ.out.eb.cell 4, HQ.out.eb.cell 5, HQ.out.eb.cell 6, HQ.out.eb.cell 7, HQ.out.eb.cell 8, HQ.out.eb.cell 9, HQ.out.eb.cell 10, HQ.out.eb.cell 11⟩)
      clear hK K
      simp only [Act.put, List.setIfInBounds_toArray, List.set_cons_zero, List.set_cons_succ]
      refine held_call 4 105 rfl rfl (by kernel_rfl) (by rfl) (fun K hK => ?_)
      go_simp
      go_at_call 20; (with_reducible refine (same24_any rd LA Aa A5 ca c5 o0 o1 o2 _ RA.out R5.out (by have := HLA.out; omega)).mono ?_); rintro x wq ⟨rfl, hb⟩
      clear R5
      have HQ := Lib.hid (HQ.out.below hb)
      have HA := Lib.hid (HA.out.belowAll hb)
      have RA := Lib.hid (RA.out.below hb)
      have HBx := Lib.hid (HBx.out.belowAll hb)
      have RB := Lib.hid (RB.out.below hb)
      clear hb
      refine hK _ _ (⟨HA.out.cell 0, HA.out.cell 1, HA.out.cell 2, HA.out.cell 3, HA.out.cell 4, HBx.out.cell 0, HBx.out.cell 1, HBx.out.cell 2, HBx.out.cell 3, HBx.out.cell 4, HQ.out.sb.cell 0, HQ.out.sb.cell 1, HQ.out.sb.cell 2, HQ.out.sb.cell 3, HQ.out.sb.cell 4, HQ.out.eb.cell 0, HQ.out.eb.cell 1, HQ.out.eb.cell 2, HQ.out.eb.cell 3, HQ.out.eb.cell 4, HQ.out.eb.cell 5, HQ.out.eb.cell 6, HQ.out.eb.cell 7, HQ.out.eb.cell 8, HQ.out.eb.cell 9, HQ.out.eb.cell 10, HQ.out.eb.cell 11⟩) ?_
      have hHeld := (show wq.cell? ⟨w6.heap.size, 0, none⟩ = some (.int .i64 rd) ∧ wq.cell? ⟨w6.heap.size, 1, none⟩ = some (.slice Aa LA.length ca) ∧ wq.cell? ⟨w6.heap.size, 2, none⟩ = some (.bool o0) ∧ wq.cell? ⟨w6.heap.size, 3, none⟩ = some (.bool o1) ∧ wq.cell? ⟨w6.heap.size, 4, none⟩ = some (.bool o2) ∧ wq.cell? ⟨w7.heap.size, 0, none⟩ = some (.int .i64 rd) ∧ wq.cell? ⟨w7.heap.size, 1, none⟩ = some (.slice Ab LB.length cb) ∧ wq.cell? ⟨w7.heap.size, 2, none⟩ = some (.bool o0) ∧ wq.cell? ⟨w7.heap.size, 3, none⟩ = some (.bool o1) ∧ wq.cell? ⟨w7.heap.size, 4, none⟩ = some (.bool o2) ∧ wq.cell? ⟨w.heap.size, 0, none⟩ = some (.int .i64 rd) ∧ wq.cell? ⟨w.heap.size, 1, none⟩ = some (.slice A l.length c) ∧ wq.cell? ⟨w.heap.size, 2, none⟩ = some (.bool o0) ∧ wq.cell? ⟨w.heap.size, 3, none⟩ = some (.bool o1) ∧ wq.cell? ⟨w.heap.size, 4, none⟩ = some (.bool o2) ∧ wq.cell? ⟨w.heap.size + 1, 0, none⟩ = some (.string e.pod.id) ∧ wq.cell? ⟨w.heap.size + 1, 1, none⟩ = some (.int .i64 e.pod.prio) ∧ wq.cell? ⟨w.heap.size + 1, 2, none⟩ = some (.bool e.pod.crit) ∧ wq.cell? ⟨w.heap.size + 1, 3, none⟩ = some (.int .i64 e.pod.q0) ∧ wq.cell? ⟨w.heap.size + 1, 4, none⟩ = some (.int .i64 e.pod.q1) ∧ wq.cell? ⟨w.heap.size + 1, 5, none⟩ = some (.int .i64 e.pod.q2) ∧ wq.cell? ⟨w.heap.size + 1, 6, none⟩ = some (.int .i64 e.pod.l0) ∧ wq.cell? ⟨w.heap.size + 1, 7, none⟩ = some (.int .i64 e.pod.l1) ∧ wq.cell? ⟨w.heap.size + 1, 8, none⟩ = some (.int .i64 e.pod.l2) ∧ wq.cell? ⟨w.heap.size + 1, 9, none⟩ = some (.string e.pod.image) ∧ wq.cell? ⟨w.heap.size + 1, 10, none⟩ = some (.int .i64 e.pod.size) ∧ wq.cell? ⟨w.heap.size + 1, 11, none⟩ = some (.int .i64 e.phase) from ⟨HA.out.cell 0, HA.out.cell 1, HA.out.cell 2, HA.out.cell 3, HA.out.cell 4, HBx.out.cell 0, HBx.out.cell 1, HBx.out.cell 2, HBx.out.cell 3, HBx.out.cell 4, HQ.out.sb.cell 0, HQ.out.sb.cell 1, HQ.out.sb.cell 2, HQ.out.sb.cell 3, HQ.out.sb.cell 4, HQ.out.eb.cell 0, HQ.out.eb.cell 1, HQ.out.eb.cell 2, HQ.out.eb.cell 3, HQ.out.eb.cell 4, HQ.out.eb.cell 5, HQ.out.eb.cell 6, HQ.out.eb.cell 7, HQ.out.eb.cell 8, HQ.out.eb.cell 9, HQ.out.eb.cell 10, HQ.out.eb.cell 11⟩)
      clear hK K
      simp only [Act.put, List.setIfInBounds_toArray, List.set_cons_zero, List.set_cons_succ]
      refine held_take 5 106 (.bool true) rfl rfl (by kernel_rfl) (by kernel_rfl) (by kernel_rfl) (fun _ _ _ h => h) (by rfl) (by intro w' hSw; (try dsimp only at hSw); go_simp; (try (with_reducible rfl))) (by assumption) ?_
      simp only [Act.put, List.setIfInBounds_toArray, List.set_cons_zero, List.set_cons_succ]
      refine held_take 6 107 (.agg #[.int .i64 rd, .slice Ab LB.length cb, .bool o0, .bool o1, .bool o2]) rfl rfl (by kernel_rfl) (by kernel_rfl) (by kernel_rfl) (fun _ _ _ h => h) (by rfl) (by intro w' hSw; (try dsimp only at hSw); go_simp; (try (with_reducible rfl))) (by assumption) ?_
      simp only [Act.put, List.setIfInBounds_toArray, List.set_cons_zero, List.set_cons_succ]
      refine held_take 7 108 (.agg #[.int .i64 rd, .slice A l.length c, .bool o0, .bool o1, .bool o2]) rfl rfl (by kernel_rfl) (by kernel_rfl) (by kernel_rfl) (fun _ _ _ h => h) (by rfl) (by intro w' hSw; (try dsimp only at hSw); go_simp; (try (with_reducible rfl))) (by assumption) ?_
      simp only [Act.put, List.setIfInBounds_toArray, List.set_cons_zero, List.set_cons_succ]
      refine held_take 8 109 (.string id) rfl rfl (by kernel_rfl) (by kernel_rfl) (by kernel_rfl) (fun _ _ _ h => h) (by rfl) (by intro w' hSw; (try dsimp only at hSw); go_simp; (try (with_reducible rfl))) (by assumption) ?_
      simp only [Act.put, List.setIfInBounds_toArray, List.set_cons_zero, List.set_cons_succ]
      refine held_call 9 110 rfl rfl (by kernel_rfl) (by rfl) (fun K hK => ?_)
      go_simp
      go_at_call 28; (with_reducible refine (HX24.out A c _ (HR.out.below HQ.out.bel) (by omega)).mono ?_); rintro x wq ⟨A6, c6, rfl, ho, hb⟩
      have R6 := Lib.hid ho.toRds
      clear ho
      have HQ := Lib.hid (HQ.out.below hb)
      have HA := Lib.hid (HA.out.belowAll hb)
      have RA := Lib.hid (RA.out.below hb)
      have HBx := Lib.hid (HBx.out.belowAll hb)
      have RB := Lib.hid (RB.out.below hb)
      clear hb
      refine hK _ _ (⟨HA.out.cell 0, HA.out.cell 1, HA.out.cell 2, HA.out.cell 3, HA.out.cell 4, HBx.out.cell 0, HBx.out.cell 1, HBx.out.cell 2, HBx.out.cell 3, HBx.out.cell 4, HQ.out.sb.cell 0, HQ.out.sb.cell 1, HQ.out.sb.cell 2, HQ.out.sb.cell 3, HQ.out.sb.cell 4, HQ.out.eb.cell 0, HQ.out.eb.cell 1, HQ.out.eb.cell 2, HQ.out.eb.cell 3, HQ.out.eb.cell 4, HQ.out.eb.cell 5, HQ.out.eb.cell 6, HQ.out.eb.cell 7, HQ.out.eb.cell 8, HQ.out.eb.cell 9, HQ.out.eb.cell 10, HQ.out.eb.cell 11⟩) ?_
      have hHeld := (show wq.cell? ⟨w6.heap.size, 0, none⟩ = some (.int .i64 rd) ∧ wq.cell? ⟨w6.heap.size, 1, none⟩ = some (.slice Aa LA.length ca) ∧ wq.cell? ⟨w6.heap.size, 2, none⟩ = some (.bool o0) ∧ wq.cell? ⟨w6.heap.size, 3, none⟩ = some (.bool o1) ∧ wq.cell? ⟨w6.heap.size, 4, none⟩ = some (.bool o2) ∧ wq.cell? ⟨w7.heap.size, 0, none⟩ = some (.int .i64 rd) ∧ wq.cell? ⟨w7.heap.size, 1, none⟩ = some (.slice Ab LB.length cb) ∧ wq.cell? ⟨w7.heap.size, 2, none⟩ = some (.bool o0) ∧ wq.cell? ⟨w7.heap.size, 3, none⟩ = some (.bool o1) ∧ wq.cell? ⟨w7.heap.size, 4, none⟩ = some (.bool o2) ∧ wq.cell? ⟨w.heap.size, 0, none⟩ = some (.int .i64 rd) ∧ wq.cell? ⟨w.heap.size, 1, none⟩ = some (.slice A l.length c) ∧ wq.cell? ⟨w.heap.size, 2, none⟩ = some (.bool o0) ∧ wq.cell? ⟨w.heap.size, 3, none⟩ = some (.bool o1) ∧ wq.cell? ⟨w.heap.size, 4, none⟩ = some (.bool o2) ∧ wq.cell? ⟨w.heap.size + 1, 0, none⟩ = some (.string e.pod.id) ∧ wq.cell? ⟨w.heap.size + 1, 1, none⟩ = some (.int .i64 e.pod.prio) ∧ wq.cell? ⟨w.heap.size + 1, 2, none⟩ = some (.bool e.pod.crit) ∧ wq.cell? ⟨w.heap.size + 1, 3, none⟩ = some (.int .i64 e.pod.q0) ∧ wq.cell? ⟨w.heap.size + 1, 4, none⟩ = some (.int .i64 e.pod.q1) ∧ wq.cell? ⟨w.heap.size + 1, 5, none⟩ = some (.int .i64 e.pod.q2) ∧ wq.cell? ⟨w.heap.size + 1, 6, none⟩ = some (.int .i64 e.pod.l0) ∧ wq.cell? ⟨w.heap.size + 1, 7, none⟩ = some (.int .i64 e.pod.l1) ∧ wq.cell? ⟨w.heap.size + 1, 8, none⟩ = some (.int .i64 e.pod.l2) ∧ wq.cell? ⟨w.heap.size + 1, 9, none⟩ = some (.string e.pod.image) ∧ wq.cell? ⟨w.heap.size + 1, 10, none⟩ = some (.int .i64 e.pod.size) ∧ wq.cell? ⟨w.heap.size + 1, 11, none⟩ = some (.int .i64 e.phase) from ⟨HA.out.cell 0, HA.out.cell 1, HA.out.cell 2, HA.out.cell 3, HA.out.cell 4, HBx.out.cell 0, HBx.out.cell 1, HBx.out.cell 2, HBx.out.cell 3, HBx.out.cell 4, HQ.out.sb.cell 0, HQ.out.sb.cell 1, HQ.out.sb.cell 2, HQ.out.sb.cell 3, HQ.out.sb.cell 4, HQ.out.eb.cell 0, HQ.out.eb.cell 1, HQ.out.eb.cell 2, HQ.out.eb.cell 3, HQ.out.eb.cell 4, HQ.out.eb.cell 5, HQ.out.eb.cell 6, HQ.out.eb.cell 7, HQ.out.eb.cell 8, HQ.out.eb.cell 9, HQ.out.eb.cell 10, HQ.out.eb.cell 11⟩)
      clear hK K
      simp only [Act.put, List.setIfInBounds_toArray, List.set_cons_zero, List.set_cons_succ]
      refine held_call 10 111 rfl rfl (by kernel_rfl) (by rfl) (fun K hK => ?_)
      go_simp
      go_at_call 20; (with_reducible refine (same24_any rd LB Ab A6 cb c6 o0 o1 o2 _ RB.out R6.out (by have := HLB.out; omega)).mono ?_); rintro x wq ⟨rfl, hb⟩
      clear R6
      have HQ := Lib.hid (HQ.out.below hb)
      have HA := Lib.hid (HA.out.belowAll hb)
      have RA := Lib.hid (RA.out.below hb)
      have HBx := Lib.hid (HBx.out.belowAll hb)
      have RB := Lib.hid (RB.out.below hb)
      clear hb
      refine hK _ _ (⟨HA.out.cell 0, HA.out.cell 1, HA.out.cell 2, HA.out.cell 3, HA.out.cell 4, HBx.out.cell 0, HBx.out.cell 1, HBx.out.cell 2, HBx.out.cell 3, HBx.out.cell 4, HQ.out.sb.cell 0, HQ.out.sb.cell 1, HQ.out.sb.cell 2, HQ.out.sb.cell 3, HQ.out.sb.cell 4, HQ.out.eb.cell 0, HQ.out.eb.cell 1, HQ.out.eb.cell 2, HQ.out.eb.cell 3, HQ.out.eb.cell 4, HQ.out.eb.cell 5, HQ.out.eb.cell 6, HQ.out.eb.cell 7, HQ.out.eb.cell 8, HQ.out.eb.cell 9, HQ.out.eb.cell 10, HQ.out.eb.cell 11⟩) ?_
      have hHeld := (show wq.cell? ⟨w6.heap.size, 0, none⟩ = some (.int .i64 rd) ∧ wq.cell? ⟨w6.heap.size, 1, none⟩ = some (.slice Aa LA.length ca) ∧ wq.cell? ⟨w6.heap.size, 2, none⟩ = some (.bool o0) ∧ wq.cell? ⟨w6.heap.size, 3, none⟩ = some (.bool o1) ∧ wq.cell? ⟨w6.heap.size, 4, none⟩ = some (.bool o2) ∧ wq.cell? ⟨w7.heap.size, 0, none⟩ = some (.int .i64 rd) ∧ wq.cell? ⟨w7.heap.size, 1, none⟩ = some (.slice Ab LB.length cb) ∧ wq.cell? ⟨w7.heap.size, 2, none⟩ = some (.bool o0) ∧ wq.cell? ⟨w7.heap.size, 3, none⟩ = some (.bool o1) ∧ wq.cell? ⟨w7.heap.size, 4, none⟩ = some (.bool o2) ∧ wq.cell? ⟨w.heap.size, 0, none⟩ = some (.int .i64 rd) ∧ wq.cell? ⟨w.heap.size, 1, none⟩ = some (.slice A l.length c) ∧ wq.cell? ⟨w.heap.size, 2, none⟩ = some (.bool o0) ∧ wq.cell? ⟨w.heap.size, 3, none⟩ = some (.bool o1) ∧ wq.cell? ⟨w.heap.size, 4, none⟩ = some (.bool o2) ∧ wq.cell? ⟨w.heap.size + 1, 0, none⟩ = some (.string e.pod.id) ∧ wq.cell? ⟨w.heap.size + 1, 1, none⟩ = some (.int .i64 e.pod.prio) ∧ wq.cell? ⟨w.heap.size + 1, 2, none⟩ = some (.bool e.pod.crit) ∧ wq.cell? ⟨w.heap.size + 1, 3, none⟩ = some (.int .i64 e.pod.q0) ∧ wq.cell? ⟨w.heap.size + 1, 4, none⟩ = some (.int .i64 e.pod.q1) ∧ wq.cell? ⟨w.heap.size + 1, 5, none⟩ = some (.int .i64 e.pod.q2) ∧ wq.cell? ⟨w.heap.size + 1, 6, none⟩ = some (.int .i64 e.pod.l0) ∧ wq.cell? ⟨w.heap.size + 1, 7, none⟩ = some (.int .i64 e.pod.l1) ∧ wq.cell? ⟨w.heap.size + 1, 8, none⟩ = some (.int .i64 e.pod.l2) ∧ wq.cell? ⟨w.heap.size + 1, 9, none⟩ = some (.string e.pod.image) ∧ wq.cell? ⟨w.heap.size + 1, 10, none⟩ = some (.int .i64 e.pod.size) ∧ wq.cell? ⟨w.heap.size + 1, 11, none⟩ = some (.int .i64 e.phase) from ⟨HA.out.cell 0, HA.out.cell 1, HA.out.cell 2, HA.out.cell 3, HA.out.cell 4, HBx.out.cell 0, HBx.out.cell 1, HBx.out.cell 2, HBx.out.cell 3, HBx.out.cell 4, HQ.out.sb.cell 0, HQ.out.sb.cell 1, HQ.out.sb.cell 2, HQ.out.sb.cell 3, HQ.out.sb.cell 4, HQ.out.eb.cell 0, HQ.out.eb.cell 1, HQ.out.eb.cell 2, HQ.out.eb.cell 3, HQ.out.eb.cell 4, HQ.out.eb.cell 5, HQ.out.eb.cell 6, HQ.out.eb.cell 7, HQ.out.eb.cell 8, HQ.out.eb.cell 9, HQ.out.eb.cell 10, HQ.out.eb.cell 11⟩)
      clear hK K
      simp only [Act.put, List.setIfInBounds_toArray, List.set_cons_zero, List.set_cons_succ]
      refine held_take 11 112 (.bool true) rfl rfl (by kernel_rfl) (by kernel_rfl) (by kernel_rfl) (fun _ _ _ h => h) (by rfl) (by intro w' hSw; (try dsimp only at hSw); go_simp; (try (with_reducible rfl))) (by assumption) ?_
      simp only [Act.put, List.setIfInBounds_toArray, List.set_cons_zero, List.set_cons_succ]
      refine held_take 12 6 (.bool true) rfl rfl (by kernel_rfl) (by kernel_rfl) (by kernel_rfl) (fun _ _ _ h => h) (by rfl) (by intro w' hSw; (try dsimp only at hSw); go_simp; (try (with_reducible rfl))) (by assumption) ?_
      simp only [Act.put, List.setIfInBounds_toArray, List.set_cons_zero, List.set_cons_succ]
      refine wpAnyH_done (by kernel_rfl) ?_ _
      clear hHeld
      go_wp2_with fail
      go_ret
      exact ⟨rfl, HQ.out.bel⟩
  · obtain ⟨li, hli⟩ : ∃ li, lowerI l id = li := ⟨_, rfl⟩
    obtain ⟨rfl, rfl⟩ : (li : Int) = fi ∧ true = fv := by unfold findS at hfi; rw [hat, hli] at hfi; simpa using hfi
    obtain rfl : (li : Int) = fk := by unfold findR at hfk; rw [hat, hli] at hfk; simpa using hfk
    have dge : decide ((0 : Int) ≤ (li : Int)) = true := decide_eq_true (by omega)
    have dne : ((li : Int) != (li : Int)) = false := by simp
    clear hat hfi hfk hli
    by_cases hla : LA.length ≤ 64
    · have dl : decide ((LA.length : Int) ≤ 64) = true := decide_eq_true (by omega)
      have dln : decide (LA.length ≤ 64) = true := decide_eq_true hla
      have HRA2 := Lib.hid (HRA.out hla)
      clear hla
      have cax := HA.out.cell
      go_wp2_with fail
      refine (stRightV_any (v := true) (RightS.iffYes HRA2.out) Aa ca o0 o1 o2 _ RA.out HMA.out (by have := HLA.out; omega)).mono ?_; rintro x wb ⟨rfl, hb⟩
      have HQ := Lib.hid (HQ.out.below hb)
      have HA := Lib.hid (HA.out.belowAll hb)
      have RA := Lib.hid (RA.out.below hb)
      have HBx := Lib.hid (HBx.out.belowAll hb)
      have RB := Lib.hid (RB.out.below hb)
      clear hb cax
      have cbx := HBx.out.cell
      go_wp2_with fail
      refine (stRightV_any (v := true) (RightS.iffYes HRB.out) Ab cb o0 o1 o2 _ RB.out HMB.out (by have := HLB.out; omega)).mono ?_; rintro x wc ⟨rfl, hb⟩
      have HQ := Lib.hid (HQ.out.below hb)
      have HA := Lib.hid (HA.out.belowAll hb)
      have RA := Lib.hid (RA.out.below hb)
      have HBx := Lib.hid (HBx.out.belowAll hb)
      have RB := Lib.hid (RB.out.below hb)
      clear hb cbx
      go_wp2_with fail
      have HQ := Lib.hid HQ.out.drew
      have HA := Lib.hid HA.out.drew
      have RA := Lib.hid RA.out.drew
      have HBx := Lib.hid HBx.out.drew
      have RB := Lib.hid RB.out.drew
      refine wp_region_held_drew (S := (fun w' => w'.cell? ⟨w6.heap.size, 0, none⟩ = some (.int .i64 rd) ∧ w'.cell? ⟨w6.heap.size, 1, none⟩ = some (.slice Aa LA.length ca) ∧ w'.cell? ⟨w6.heap.size, 2, none⟩ = some (.bool o0) ∧ w'.cell? ⟨w6.heap.size, 3, none⟩ = some (.bool o1) ∧ w'.cell? ⟨w6.heap.size, 4, none⟩ = some (.bool o2) ∧ w'.cell? ⟨w7.heap.size, 0, none⟩ = some (.int .i64 rd) ∧ w'.cell? ⟨w7.heap.size, 1, none⟩ = some (.slice Ab LB.length cb) ∧ w'.cell? ⟨w7.heap.size, 2, none⟩ = some (.bool o0) ∧ w'.cell? ⟨w7.heap.size, 3, none⟩ = some (.bool o1) ∧ w'.cell? ⟨w7.heap.size, 4, none⟩ = some (.bool o2) ∧ w'.cell? ⟨w.heap.size, 0, none⟩ = some (.int .i64 rd) ∧ w'.cell? ⟨w.heap.size, 1, none⟩ = some (.slice A l.length c) ∧ w'.cell? ⟨w.heap.size, 2, none⟩ = some (.bool o0) ∧ w'.cell? ⟨w.heap.size, 3, none⟩ = some (.bool o1) ∧ w'.cell? ⟨w.heap.size, 4, none⟩ = some (.bool o2) ∧ w'.cell? ⟨w.heap.size + 1, 0, none⟩ = some (.string e.pod.id) ∧ w'.cell? ⟨w.heap.size + 1, 1, none⟩ = some (.int .i64 e.pod.prio) ∧ w'.cell? ⟨w.heap.size + 1, 2, none⟩ = some (.bool e.pod.crit) ∧ w'.cell? ⟨w.heap.size + 1, 3, none⟩ = some (.int .i64 e.pod.q0) ∧ w'.cell? ⟨w.heap.size + 1, 4, none⟩ = some (.int .i64 e.pod.q1) ∧ w'.cell? ⟨w.heap.size + 1, 5, none⟩ = some (.int .i64 e.pod.q2) ∧ w'.cell? ⟨w.heap.size + 1, 6, none⟩ = some (.int .i64 e.pod.l0) ∧ w'.cell? ⟨w.heap.size + 1, 7, none⟩ = some (.int .i64 e.pod.l1) ∧ w'.cell? ⟨w.heap.size + 1, 8, none⟩ = some (.int .i64 e.pod.l2) ∧ w'.cell? ⟨w.heap.size + 1, 9, none⟩ = some (.string e.pod.image) ∧ w'.cell? ⟨w.heap.size + 1, 10, none⟩ = some (.int .i64 e.pod.size) ∧ w'.cell? ⟨w.heap.size + 1, 11, none⟩ = some (.int .i64 e.phase))) (by kernel_rfl) (⟨HA.out.cell 0, HA.out.cell 1, HA.out.cell 2, HA.out.cell 3, HA.out.cell 4, HBx.out.cell 0, HBx.out.cell 1, HBx.out.cell 2, HBx.out.cell 3, HBx.out.cell 4, HQ.out.sb.cell 0, HQ.out.sb.cell 1, HQ.out.sb.cell 2, HQ.out.sb.cell 3, HQ.out.sb.cell 4, HQ.out.eb.cell 0, HQ.out.eb.cell 1, HQ.out.eb.cell 2, HQ.out.eb.cell 3, HQ.out.eb.cell 4, HQ.out.eb.cell 5, HQ.out.eb.cell 6, HQ.out.eb.cell 7, HQ.out.eb.cell 8, HQ.out.eb.cell 9, HQ.out.eb.cell 10, HQ.out.eb.cell 11⟩) (fun hHeld => ?_)
      refine held_take 0 101 (.agg #[.int .i64 rd, .slice Aa LA.length ca, .bool o0, .bool o1, .bool o2]) rfl rfl (by kernel_rfl) (by kernel_rfl) (by kernel_rfl) (fun _ _ _ h => h) (by rfl) (by intro w' hSw; (try dsimp only at hSw); go_simp; (try (with_reducible rfl))) (by assumption) ?_
      simp only [Act.put, List.setIfInBounds_toArray, List.set_cons_zero, List.set_cons_succ]
      refine held_take 1 102 (.agg #[.int .i64 rd, .slice A l.length c, .bool o0, .bool o1, .bool o2]) rfl rfl (by kernel_rfl) (by kernel_rfl) (by kernel_rfl) (fun _ _ _ h => h) (by rfl) (by intro w' hSw; (try dsimp only at hSw); go_simp; (try (with_reducible rfl))) (by assumption) ?_
      simp only [Act.put, List.setIfInBounds_toArray, List.set_cons_zero, List.set_cons_succ]
      refine held_take 2 103 (.agg #[.string e.pod.id, .int .i64 e.pod.prio, .bool e.pod.crit, .int .i64 e.pod.q0, .int .i64 e.pod.q1, .int .i64 e.pod.q2, .int .i64 e.pod.l0, .int .i64 e.pod.l1, .int .i64 e.pod.l2, .string e.pod.image, .int .i64 e.pod.size, .int .i64 e.phase]) rfl rfl (by kernel_rfl) (by kernel_rfl) (by kernel_rfl) (fun _ _ _ h => h) (by rfl) (by intro w' hSw; (try dsimp only at hSw); go_simp; (try (with_reducible rfl))) (by assumption) ?_
      simp only [Act.put, List.setIfInBounds_toArray, List.set_cons_zero, List.set_cons_succ]
      refine held_call 3 104 rfl rfl (by kernel_rfl) (by rfl) (fun K hK => ?_)
      go_simp
      go_at_call 27; (with_reducible refine (HW24.out A c _ (HR.out.below HQ.out.bel) (by omega)).mono ?_); rintro x wq ⟨A5, c5, rfl, ho, hb⟩
      have R5 := Lib.hid ho.toRds
      clear ho
      have HQ := Lib.hid (HQ.out.below hb)
      have HA := Lib.hid (HA.out.belowAll hb)
      have RA := Lib.hid (RA.out.below hb)
      have HBx := Lib.hid (HBx.out.belowAll hb)
      have RB := Lib.hid (RB.out.below hb)
      clear hb
      refine hK _ _ (⟨HA.out.cell 0, HA.out.cell 1, HA.out.cell 2, HA.out.cell 3, HA.out.cell 4, HBx.out.cell 0, HBx.out.cell 1, HBx.out.cell 2, HBx.out.cell 3, HBx.out.cell 4, HQ.out.sb.cell 0, HQ.out.sb.cell 1, HQ.out.sb.cell 2, HQ.out.sb.cell 3, HQ.out.sb.cell 4, HQ.out.eb.cell 0, HQ.out.eb.cell 1, HQ.out.eb.cell 2, HQ.out.eb.cell 3, HQ.out.eb.cell 4, HQ.out.eb.cell 5, HQ.out.eb.cell 6, HQ.out.eb.cell 7, HQ.out.eb.cell 8, HQ.out.eb.cell 9, HQ.out.eb.cell 10, HQ.out.eb.cell 11⟩) ?_
      have hHeld := (show wq.cell? ⟨w6.heap.size, 0, none⟩ = some (.int .i64 rd) ∧ wq.cell? ⟨w6.heap.size, 1, none⟩ = some (.slice Aa LA.length ca) ∧ wq.cell? ⟨w6.heap.size, 2, none⟩ = some (.bool o0) ∧ wq.cell? ⟨w6.heap.size, 3, none⟩ = some (.bool o1) ∧ wq.cell? ⟨w6.heap.size, 4, none⟩ = some (.bool o2) ∧ wq.cell? ⟨w7.heap.size, 0, none⟩ = some (.int .i64 rd) ∧ wq.cell? ⟨w7.heap.size, 1, none⟩ = some (.slice Ab LB.length cb) ∧ wq.cell? ⟨w7.heap.size, 2, none⟩ = some (.bool o0) ∧ wq.cell? ⟨w7.heap.size, 3, none⟩ = some (.bool o1) ∧ wq.cell? ⟨w7.heap.size, 4, none⟩ = some (.bool o2) ∧ wq.cell? ⟨w.heap.size, 0, none⟩ = some (.int .i64 rd) ∧ wq.cell? ⟨w.heap.size, 1, none⟩ = some (.slice A l.length c) ∧ wq.cell? ⟨w.heap.size, 2, none⟩ = some (.bool o0) ∧ wq.cell? ⟨w.heap.size, 3, none⟩ = some (.bool o1) ∧ wq.cell? ⟨w.heap.size, 4, none⟩ = some (.bool o2) ∧ wq.cell? ⟨w.heap.size + 1, 0, none⟩ = some (.string e.pod.id) ∧ wq.cell? ⟨w.heap.size + 1, 1, none⟩ = some (.int .i64 e.pod.prio) ∧ wq.cell? ⟨w.heap.size + 1, 2, none⟩ = some (.bool e.pod.crit) ∧ wq.cell? ⟨w.heap.size + 1, 3, none⟩ = some (.int .i64 e.pod.q0) ∧ wq.cell? ⟨w.heap.size + 1, 4, none⟩ = some (.int .i64 e.pod.q1) ∧ wq.cell? ⟨w.heap.size + 1, 5, none⟩ = some (.int .i64 e.pod.q2) ∧ wq.cell? ⟨w.heap.size + 1, 6, none⟩ = some (.int .i64 e.pod.l0) ∧ wq.cell? ⟨w.heap.size + 1, 7, none⟩ = some (.int .i64 e.pod.l1) ∧ wq.cell? ⟨w.heap.size + 1, 8, none⟩ = some (.int .i64 e.pod.l2) ∧ wq.cell? ⟨w.heap.size + 1, 9, none⟩ = some (.string e.pod.image) ∧ wq.cell? ⟨w.heap.size + 1, 10, none⟩ = some (.int .i64 e.pod.size) ∧ wq.cell? ⟨w.heap.size + 1, 11, none⟩ = some (.int .i64 e.phase) from ⟨HA.out.cell 0, HA.out.cell 1, HA.out.cell 2, HA.out.cell 3, HA.out.cell 4, HBx.out.cell 0, HBx.out.cell 1, HBx.out.cell 2, HBx.out.cell 3, HBx.out.cell 4, HQ.out.sb.cell 0, HQ.out.sb.cell 1, HQ.out.sb.cell 2, HQ.out.sb.cell 3, HQ.out.sb.cell 4, HQ.out.eb.cell 0, HQ.out.eb.cell 1, HQ.out.eb.cell 2, HQ.out.eb.cell 3, HQ.out.eb.cell 4, HQ.out.eb.cell 5, HQ.out.eb.cell 6, HQ.out.eb.cell 7, HQ.out.eb.cell 8, HQ.out.eb.cell 9, HQ.out.eb.cell 10, HQ.out.eb.cell 11⟩)
      clear hK K
      simp only [Act.put, List.setIfInBounds_toArray, List.set_cons_zero, List.set_cons_succ]
      refine held_call 4 105 rfl rfl (by kernel_rfl) (by rfl) (fun K hK => ?_)
      go_simp
      go_at_call 20; (with_reducible refine (same24_any rd LA Aa A5 ca c5 o0 o1 o2 _ RA.out R5.out (by have := HLA.out; omega)).mono ?_); rintro x wq ⟨rfl, hb⟩
      clear R5
      have HQ := Lib.hid (HQ.out.below hb)
      have HA := Lib.hid (HA.out.belowAll hb)
      have RA := Lib.hid (RA.out.below hb)
      have HBx := Lib.hid (HBx.out.belowAll hb)
      have RB := Lib.hid (RB.out.below hb)
      clear hb
      refine hK _ _ (⟨HA.out.cell 0, HA.out.cell 1, HA.out.cell 2, HA.out.cell 3, HA.out.cell 4, HBx.out.cell 0, HBx.out.cell 1, HBx.out.cell 2, HBx.out.cell 3, HBx.out.cell 4, HQ.out.sb.cell 0, HQ.out.sb.cell 1, HQ.out.sb.cell 2, HQ.out.sb.cell 3, HQ.out.sb.cell 4, HQ.out.eb.cell 0, HQ.out.eb.cell 1, HQ.out.eb.cell 2, HQ.out.eb.cell 3, HQ.out.eb.cell 4, HQ.out.eb.cell 5, HQ.out.eb.cell 6, HQ.out.eb.cell 7, HQ.out.eb.cell 8, HQ.out.eb.cell 9, HQ.out.eb.cell 10, HQ.out.eb.cell 11⟩) ?_
      have hHeld := (show wq.cell? ⟨w6.heap.size, 0, none⟩ = some (.int .i64 rd) ∧ wq.cell? ⟨w6.heap.size, 1, none⟩ = some (.slice Aa LA.length ca) ∧ wq.cell? ⟨w6.heap.size, 2, none⟩ = some (.bool o0) ∧ wq.cell? ⟨w6.heap.size, 3, none⟩ = some (.bool o1) ∧ wq.cell? ⟨w6.heap.size, 4, none⟩ = some (.bool o2) ∧ wq.cell? ⟨w7.heap.size, 0, none⟩ = some (.int .i64 rd) ∧ wq.cell? ⟨w7.heap.size, 1, none⟩ = some (.slice Ab LB.length cb) ∧ wq.cell? ⟨w7.heap.size, 2, none⟩ = some (.bool o0) ∧ wq.cell? ⟨w7.heap.size, 3, none⟩ = some (.bool o1) ∧ wq.cell? ⟨w7.heap.size, 4, none⟩ = some (.bool o2) ∧ wq.cell? ⟨w.heap.size, 0, none⟩ = some (.int .i64 rd) ∧ wq.cell? ⟨w.heap.size, 1, none⟩ = some (.slice A l.length c) ∧ wq.cell? ⟨w.heap.size, 2, none⟩ = some (.bool o0) ∧ wq.cell? ⟨w.heap.size, 3, none⟩ = some (.bool o1) ∧ wq.cell? ⟨w.heap.size, 4, none⟩ = some (.bool o2) ∧ wq.cell? ⟨w.heap.size + 1, 0, none⟩ = some (.string e.pod.id) ∧ wq.cell? ⟨w.heap.size + 1, 1, none⟩ = some (.int .i64 e.pod.prio) ∧ wq.cell? ⟨w.heap.size + 1, 2, none⟩ = some (.bool e.pod.crit) ∧ wq.cell? ⟨w.heap.size + 1, 3, none⟩ = some (.int .i64 e.pod.q0) ∧ wq.cell? ⟨w.heap.size + 1, 4, none⟩ = some (.int .i64 e.pod.q1) ∧ wq.cell? ⟨w.heap.size + 1, 5, none⟩ = some (.int .i64 e.pod.q2) ∧ wq.cell? ⟨w.heap.size + 1, 6, none⟩ = some (.int .i64 e.pod.l0) ∧ wq.cell? ⟨w.heap.size + 1, 7, none⟩ = some (.int .i64 e.pod.l1) ∧ wq.cell? ⟨w.heap.size + 1, 8, none⟩ = some (.int .i64 e.pod.l2) ∧ wq.cell? ⟨w.heap.size + 1, 9, none⟩ = some (.string e.pod.image) ∧ wq.cell? ⟨w.heap.size + 1, 10, none⟩ = some (.int .i64 e.pod.size) ∧ wq.cell? ⟨w.heap.size + 1, 11, none⟩ = some (.int .i64 e.phase) from ⟨HA.out.cell 0, HA.out.cell 1, HA.out.cell 2, HA.out.cell 3, HA.out.cell 4, HBx.out.cell 0, HBx.out.cell 1, HBx.out.cell 2, HBx.out.cell 3, HBx.out.cell 4, HQ.out.sb.cell 0, HQ.out.sb.cell 1, HQ.out.sb.cell 2, HQ.out.sb.cell 3, HQ.out.sb.cell 4, HQ.out.eb.cell 0, HQ.out.eb.cell 1, HQ.out.eb.cell 2, HQ.out.eb.cell 3, HQ.out.eb.cell 4, HQ.out.eb.cell 5, HQ.out.eb.cell 6, HQ.out.eb.cell 7, HQ.out.eb.cell 8, HQ.out.eb.cell 9, HQ.out.eb.cell 10, HQ.out.eb.cell 11⟩)
      clear hK K
      simp only [Act.put, List.setIfInBounds_toArray, List.set_cons_zero, List.set_cons_succ]
      refine held_take 5 106 (.bool true) rfl rfl (by kernel_rfl) (by kernel_rfl) (by kernel_rfl) (fun _ _ _ h => h) (by rfl) (by intro w' hSw; (try dsimp only at hSw); go_simp; (try (with_reducible rfl))) (by assumption) ?_
      simp only [Act.put, List.setIfInBounds_toArray, List.set_cons_zero, List.set_cons_succ]
      refine held_take 6 107 (.agg #[.int .i64 rd, .slice Ab LB.length cb, .bool o0, .bool o1, .bool o2]) rfl rfl (by kernel_rfl) (by kernel_rfl) (by kernel_rfl) (fun _ _ _ h => h) (by rfl) (by intro w' hSw; (try dsimp only at hSw); go_simp; (try (with_reducible rfl))) (by assumption) ?_
      simp only [Act.put, List.setIfInBounds_toArray, List.set_cons_zero, List.set_cons_succ]
      refine held_take 7 108 (.agg #[.int .i64 rd, .slice A l.length c, .bool o0, .bool o1, .bool o2]) rfl rfl (by kernel_rfl) (by kernel_rfl) (by kernel_rfl) (fun _ _ _ h => h) (by rfl) (by intro w' hSw; (try dsimp only at hSw); go_simp; (try (with_reducible rfl))) (by assumption) ?_
      simp only [Act.put, List.setIfInBounds_toArray, List.set_cons_zero, List.set_cons_succ]
      refine held_take 8 109 (.string id) rfl rfl (by kernel_rfl) (by kernel_rfl) (by kernel_rfl) (fun _ _ _ h => h) (by rfl) (by intro w' hSw; (try dsimp only at hSw); go_simp; (try (with_reducible rfl))) (by assumption) ?_
      simp only [Act.put, List.setIfInBounds_toArray, List.set_cons_zero, List.set_cons_succ]
      refine held_call 9 110 rfl rfl (by kernel_rfl) (by rfl) (fun K hK => ?_)
      go_simp
      go_at_call 28; (with_reducible refine (HX24.out A c _ (HR.out.below HQ.out.bel) (by omega)).mono ?_); rintro x wq ⟨A6, c6, rfl, ho, hb⟩
      have R6 := Lib.hid ho.toRds
      clear ho
      have HQ := Lib.hid (HQ.out.below hb)
      have HA := Lib.hid (HA.out.belowAll hb)
      have RA := Lib.hid (RA.out.below hb)
      have HBx := Lib.hid (HBx.out.belowAll hb)
      have RB := Lib.hid (RB.out.below hb)
      clear hb
      refine hK _ _ (⟨HA.out.cell 0, HA.out.cell 1, HA.out.cell 2, HA.out.cell 3, HA.out.cell 4, HBx.out.cell 0, HBx.out.cell 1, HBx.out.cell 2, HBx.out.cell 3, HBx.out.cell 4, HQ.out.sb.cell 0, HQ.out.sb.cell 1, HQ.out.sb.cell 2, HQ.out.sb.cell 3, HQ.out.sb.cell 4, HQ.out.eb.cell 0, HQ.out.eb.cell 1, HQ.out.eb.cell 2, HQ.out.eb.cell 3, HQ.out.eb.cell 4, HQ.out.eb.cell 5, HQ.out.eb.cell 6, HQ.out.eb.cell 7, HQ.out.eb.cell 8, HQ.out.eb.cell 9, HQ.out.eb.cell 10, HQ.out.eb.cell 11⟩) ?_
      have hHeld := (show wq.cell? ⟨w6.heap.size, 0, none⟩ = some (.int .i64 rd) ∧ wq.cell? ⟨w6.heap.size, 1, none⟩ = some (.slice Aa LA.length ca) ∧ wq.cell? ⟨w6.heap.size, 2, none⟩ = some (.bool o0) ∧ wq.cell? ⟨w6.heap.size, 3, none⟩ = some (.bool o1) ∧ wq.cell? ⟨w6.heap.size, 4, none⟩ = some (.bool o2) ∧ wq.cell? ⟨w7.heap.size, 0, none⟩ = some (.int .i64 rd) ∧ wq.cell? ⟨w7.heap.size, 1, none⟩ = some (.slice Ab LB.length cb) ∧ wq.cell? ⟨w7.heap.size, 2, none⟩ = some (.bool o0) ∧ wq.cell? ⟨w7.heap.size, 3, none⟩ = some (.bool o1) ∧ wq.cell? ⟨w7.heap.size, 4, none⟩ = some (.bool o2) ∧ wq.cell? ⟨w.heap.size, 0, none⟩ = some (.int .i64 rd) ∧ wq.cell? ⟨w.heap.size, 1, none⟩ = some (.slice A l.length c) ∧ wq.cell? ⟨w.heap.size, 2, none⟩ = some (.bool o0) ∧ wq.cell? ⟨w.heap.size, 3, none⟩ = some (.bool o1) ∧ wq.cell? ⟨w.heap.size, 4, none⟩ = some (.bool o2) ∧ wq.cell? ⟨w.heap.size + 1, 0, none⟩ = some (.string e.pod.id) ∧ wq.cell? ⟨w.heap.size + 1, 1, none⟩ = some (.int .i64 e.pod.prio) ∧ wq.cell? ⟨w.heap.size + 1, 2, none⟩ = some (.bool e.pod.crit) ∧ wq.cell? ⟨w.heap.size + 1, 3, none⟩ = some (.int .i64 e.pod.q0) ∧ wq.cell? ⟨w.heap.size + 1, 4, none⟩ = some (.int .i64 e.pod.q1) ∧ wq.cell? ⟨w.heap.size + 1, 5, none⟩ = some (.int .i64 e.pod.q2) ∧ wq.cell? ⟨w.heap.size + 1, 6, none⟩ = some (.int .i64 e.pod.l0) ∧ wq.cell? ⟨w.heap.size + 1, 7, none⟩ = some (.int .i64 e.pod.l1) ∧ wq.cell? ⟨w.heap.size + 1, 8, none⟩ = some (.int .i64 e.pod.l2) ∧ wq.cell? ⟨w.heap.size + 1, 9, none⟩ = some (.string e.pod.image) ∧ wq.cell? ⟨w.heap.size + 1, 10, none⟩ = some (.int .i64 e.pod.size) ∧ wq.cell? ⟨w.heap.size + 1, 11, none⟩ = some (.int .i64 e.phase) from ⟨HA.out.cell 0, HA.out.cell 1, HA.out.cell 2, HA.out.cell 3, HA.out.cell 4, HBx.out.cell 0, HBx.out.cell 1, HBx.out.cell 2, HBx.out.cell 3, HBx.out.cell 4, HQ.out.sb.cell 0, HQ.out.sb.cell 1, HQ.out.sb.cell 2, HQ.out.sb.cell 3, HQ.out.sb.cell 4, HQ.out.eb.cell 0, HQ.out.eb.cell 1, HQ.out.eb.cell 2, HQ.out.eb.cell 3, HQ.out.eb.cell 4, HQ.out.eb.cell 5, HQ.out.eb.cell 6, HQ.out.eb.cell 7, HQ.out.eb.cell 8, HQ.out.eb.cell 9, HQ.out.eb.cell 10, HQ.out.eb.cell 11⟩)
      clear hK K
      simp only [Act.put, List.setIfInBounds_toArray, List.set_cons_zero, List.set_cons_succ]
      refine held_call 10 111 rfl rfl (by kernel_rfl) (by rfl) (fun K hK => ?_)
      go_simp
      go_at_call 20; (with_reducible refine (same24_any rd LB Ab A6 cb c6 o0 o1 o2 _ RB.out R6.out (by have := HLB.out; omega)).mono ?_); rintro x wq ⟨rfl, hb⟩
      clear R6
      have HQ := Lib.hid (HQ.out.below hb)
      have HA := Lib.hid (HA.out.belowAll hb)
      have RA := Lib.hid (RA.out.below hb)
      have HBx := Lib.hid (HBx.out.belowAll hb)
      have RB := Lib.hid (RB.out.below hb)
      clear hb
      refine hK _ _ (⟨HA.out.cell 0, HA.out.cell 1, HA.out.cell 2, HA.out.cell 3, HA.out.cell 4, HBx.out.cell 0, HBx.out.cell 1, HBx.out.cell 2, HBx.out.cell 3, HBx.out.cell 4, HQ.out.sb.cell 0, HQ.out.sb.cell 1, HQ.out.sb.cell 2, HQ.out.sb.cell 3, HQ.out.sb.cell 4, HQ.out.eb.cell 0, HQ.out.eb.cell 1, HQ.out.eb.cell 2, HQ.out.eb.cell 3, HQ.out.eb.cell 4, HQ.out.eb.cell 5, HQ.out.eb.cell 6, HQ.out.eb.cell 7, HQ.out.eb.cell 8, HQ.out.eb.cell 9, HQ.out.eb.cell 10, HQ.out.eb.cell 11⟩) ?_
      have hHeld := (show wq.cell? ⟨w6.heap.size, 0, none⟩ = some (.int .i64 rd) ∧ wq.cell? ⟨w6.heap.size, 1, none⟩ = some (.slice Aa LA.length ca) ∧ wq.cell? ⟨w6.heap.size, 2, none⟩ = some (.bool o0) ∧ wq.cell? ⟨w6.heap.size, 3, none⟩ = some (.bool o1) ∧ wq.cell? ⟨w6.heap.size, 4, none⟩ = some (.bool o2) ∧ wq.cell? ⟨w7.heap.size, 0, none⟩ = some (.int .i64 rd) ∧ wq.cell? ⟨w7.heap.size, 1, none⟩ = some (.slice Ab LB.length cb) ∧ wq.cell? ⟨w7.heap.size, 2, none⟩ = some (.bool o0) ∧ wq.cell? ⟨w7.heap.size, 3, none⟩ = some (.bool o1) ∧ wq.cell? ⟨w7.heap.size, 4, none⟩ = some (.bool o2) ∧ wq.cell? ⟨w.heap.size, 0, none⟩ = some (.int .i64 rd) ∧ wq.cell? ⟨w.heap.size, 1, none⟩ = some (.slice A l.length c) ∧ wq.cell? ⟨w.heap.size, 2, none⟩ = some (.bool o0) ∧ wq.cell? ⟨w.heap.size, 3, none⟩ = some (.bool o1) ∧ wq.cell? ⟨w.heap.size, 4, none⟩ = some (.bool o2) ∧ wq.cell? ⟨w.heap.size + 1, 0, none⟩ = some (.string e.pod.id) ∧ wq.cell? ⟨w.heap.size + 1, 1, none⟩ = some (.int .i64 e.pod.prio) ∧ wq.cell? ⟨w.heap.size + 1, 2, none⟩ = some (.bool e.pod.crit) ∧ wq.cell? ⟨w.heap.size + 1, 3, none⟩ = some (.int .i64 e.pod.q0) ∧ wq.cell? ⟨w.heap.size + 1, 4, none⟩ = some (.int .i64 e.pod.q1) ∧ wq.cell? ⟨w.heap.size + 1, 5, none⟩ = some (.int .i64 e.pod.q2) ∧ wq.cell? ⟨w.heap.size + 1, 6, none⟩ = some (.int .i64 e.pod.l0) ∧ wq.cell? ⟨w.heap.size + 1, 7, none⟩ = some (.int .i64 e.pod.l1) ∧ wq.cell? ⟨w.heap.size + 1, 8, none⟩ = some (.int .i64 e.pod.l2) ∧ wq.cell? ⟨w.heap.size + 1, 9, none⟩ = some (.string e.pod.image) ∧ wq.cell? ⟨w.heap.size + 1, 10, none⟩ = some (.int .i64 e.pod.size) ∧ wq.cell? ⟨w.heap.size + 1, 11, none⟩ = some (.int .i64 e.phase) from ⟨HA.out.cell 0, HA.out.cell 1, HA.out.cell 2, HA.out.cell 3, HA.out.cell 4, HBx.out.cell 0, HBx.out.cell 1, HBx.out.cell 2, HBx.out.cell 3, HBx.out.cell 4, HQ.out.sb.cell 0, HQ.out.sb.cell 1, HQ.out.sb.cell 2, HQ.out.sb.cell 3, HQ.out.sb.cell 4, HQ.out.eb.cell 0, HQ.out.eb.cell 1, HQ.out.eb.cell 2, HQ.out.eb.cell 3, HQ.out.eb.cell 4, HQ.out.eb.cell 5, HQ.out.eb.cell 6, HQ.out.eb.cell 7, HQ.out.eb.cell 8, HQ.out.eb.cell 9, HQ.out.eb.cell 10, HQ.out.eb.cell 11⟩)
      clear hK K
      simp only [Act.put, List.setIfInBounds_toArray, List.set_cons_zero, List.set_cons_succ]
      refine held_take 11 112 (.bool true) rfl rfl (by kernel_rfl) (by kernel_rfl) (by kernel_rfl) (fun _ _ _ h => h) (by rfl) (by intro w' hSw; (try dsimp only at hSw); go_simp; (try (with_reducible rfl))) (by assumption) ?_
      simp only [Act.put, List.setIfInBounds_toArray, List.set_cons_zero, List.set_cons_succ]
      refine held_take 12 6 (.bool true) rfl rfl (by kernel_rfl) (by kernel_rfl) (by kernel_rfl) (fun _ _ _ h => h) (by rfl) (by intro w' hSw; (try dsimp only at hSw); go_simp; (try (with_reducible rfl))) (by assumption) ?_
      simp only [Act.put, List.setIfInBounds_toArray, List.set_cons_zero, List.set_cons_succ]
      refine wpAnyH_done (by kernel_rfl) ?_ _
      clear hHeld
      go_wp2_with fail
      go_ret
      exact ⟨rfl, HQ.out.bel⟩
    · have dl : decide ((LA.length : Int) ≤ 64) = false := decide_eq_false (by omega)
      have dln : decide (LA.length ≤ 64) = false := decide_eq_false hla
      clear hla
      have cax := HA.out.cell
      have cbx := HBx.out.cell
      go_wp2_with fail
      refine (stRightV_any (v := true) (RightS.iffYes HRB.out) Ab cb o0 o1 o2 _ RB.out HMB.out (by have := HLB.out; omega)).mono ?_; rintro x wc ⟨rfl, hb⟩
      have HQ := Lib.hid (HQ.out.below hb)
      have HA := Lib.hid (HA.out.belowAll hb)
      have RA := Lib.hid (RA.out.below hb)
      have HBx := Lib.hid (HBx.out.belowAll hb)
      have RB := Lib.hid (RB.out.below hb)
      clear hb cbx cax
      go_wp2_with fail
      have HQ := Lib.hid HQ.out.drew
      have HA := Lib.hid HA.out.drew
      have RA := Lib.hid RA.out.drew
      have HBx := Lib.hid HBx.out.drew
      have RB := Lib.hid RB.out.drew
      refine wp_region_held_drew (S := (fun w' => w'.cell? ⟨w6.heap.size, 0, none⟩ = some (.int .i64 rd) ∧ w'.cell? ⟨w6.heap.size, 1, none⟩ = some (.slice Aa LA.length ca) ∧ w'.cell? ⟨w6.heap.size, 2, none⟩ = some (.bool o0) ∧ w'.cell? ⟨w6.heap.size, 3, none⟩ = some (.bool o1) ∧ w'.cell? ⟨w6.heap.size, 4, none⟩ = some (.bool o2) ∧ w'.cell? ⟨w7.heap.size, 0, none⟩ = some (.int .i64 rd) ∧ w'.cell? ⟨w7.heap.size, 1, none⟩ = some (.slice Ab LB.length cb) ∧ w'.cell? ⟨w7.heap.size, 2, none⟩ = some (.bool o0) ∧ w'.cell? ⟨w7.heap.size, 3, none⟩ = some (.bool o1) ∧ w'.cell? ⟨w7.heap.size, 4, none⟩ = some (.bool o2) ∧ w'.cell? ⟨w.heap.size, 0, none⟩ = some (.int .i64 rd) ∧ w'.cell? ⟨w.heap.size, 1, none⟩ = some (.slice A l.length c) ∧ w'.cell? ⟨w.heap.size, 2, none⟩ = some (.bool o0) ∧ w'.cell? ⟨w.heap.size, 3, none⟩ = some (.bool o1) ∧ w'.cell? ⟨w.heap.size, 4, none⟩ = some (.bool o2) ∧ w'.cell? ⟨w.heap.size + 1, 0, none⟩ = some (.string e.pod.id) ∧ w'.cell? ⟨w.heap.size + 1, 1, none⟩ = some (.int .i64 e.pod.prio) ∧ w'.cell? ⟨w.heap.size + 1, 2, none⟩ = some (.bool e.pod.crit) ∧ w'.cell? ⟨w.heap.size + 1, 3, none⟩ = some (.int .i64 e.pod.q0) ∧ w'.cell? ⟨w.heap.size + 1, 4, none⟩ = some (.int .i64 e.pod.q1) ∧ w'.cell? ⟨w.heap.size + 1, 5, none⟩ = some (.int .i64 e.pod.q2) ∧ w'.cell? ⟨w.heap.size + 1, 6, none⟩ = some (.int .i64 e.pod.l0) ∧ w'.cell? ⟨w.heap.size + 1, 7, none⟩ = some (.int .i64 e.pod.l1) ∧ w'.cell? ⟨w.heap.size + 1, 8, none⟩ = some (.int .i64 e.pod.l2) ∧ w'.cell? ⟨w.heap.size + 1, 9, none⟩ = some (.string e.pod.image) ∧ w'.cell? ⟨w.heap.size + 1, 10, none⟩ = some (.int .i64 e.pod.size) ∧ w'.cell? ⟨w.heap.size + 1, 11, none⟩ = some (.int .i64 e.phase))) (by kernel_rfl) (⟨HA.out.cell 0, HA.out.cell 1, HA.out.cell 2, HA.out.cell 3, HA.out.cell 4, HBx.out.cell 0, HBx.out.cell 1, HBx.out.cell 2, HBx.out.cell 3, HBx.out.cell 4, HQ.out.sb.cell 0, HQ.out.sb.cell 1, HQ.out.sb.cell 2, HQ.out.sb.cell 3, HQ.out.sb.cell 4, HQ.out.eb.cell 0, HQ.out.eb.cell 1, HQ.out.eb.cell 2, HQ.out.eb.cell 3, HQ.out.eb.cell 4, HQ.out.eb.cell 5, HQ.out.eb.cell 6, HQ.out.eb.cell 7, HQ.out.eb.cell 8, HQ.out.eb.cell 9, HQ.out.eb.cell 10, HQ.out.eb.cell 11⟩) (fun hHeld => ?_)
      refine held_take 0 101 (.agg #[.int .i64 rd, .slice Aa LA.length ca, .bool o0, .bool o1, .bool o2]) rfl rfl (by kernel_rfl) (by kernel_rfl) (by kernel_rfl) (fun _ _ _ h => h) (by rfl) (by intro w' hSw; (try dsimp only at hSw); go_simp; (try (with_reducible rfl))) (by assumption) ?_
      simp only [Act.put, List.setIfInBounds_toArray, List.set_cons_zero, List.set_cons_succ]
      refine held_take 1 102 (.agg #[.int .i64 rd, .slice A l.length c, .bool o0, .bool o1, .bool o2]) rfl rfl (by kernel_rfl) (by kernel_rfl) (by kernel_rfl) (fun _ _ _ h => h) (by rfl) (by intro w' hSw; (try dsimp only at hSw); go_simp; (try (with_reducible rfl))) (by assumption) ?_
      simp only [Act.put, List.setIfInBounds_toArray, List.set_cons_zero, List.set_cons_succ]
      refine held_take 2 103 (.agg #[.string e.pod.id, .int .i64 e.pod.prio, .bool e.pod.crit, .int .i64 e.pod.q0, .int .i64 e.pod.q1, .int .i64 e.pod.q2, .int .i64 e.pod.l0, .int .i64 e.pod.l1, .int .i64 e.pod.l2, .string e.pod.image, .int .i64 e.pod.size, .int .i64 e.phase]) rfl rfl (by kernel_rfl) (by kernel_rfl) (by kernel_rfl) (fun _ _ _ h => h) (by rfl) (by intro w' hSw; (try dsimp only at hSw); go_simp; (try (with_reducible rfl))) (by assumption) ?_
      simp only [Act.put, List.setIfInBounds_toArray, List.set_cons_zero, List.set_cons_succ]
      refine held_call 3 104 rfl rfl (by kernel_rfl) (by rfl) (fun K hK => ?_)
      go_simp
      go_at_call 27; (with_reducible refine (HW24.out A c _ (HR.out.below HQ.out.bel) (by omega)).mono ?_); rintro x wq ⟨A5, c5, rfl, ho, hb⟩
      have R5 := Lib.hid ho.toRds
      clear ho
      have HQ := Lib.hid (HQ.out.below hb)
      have HA := Lib.hid (HA.out.belowAll hb)
      have RA := Lib.hid (RA.out.below hb)
      have HBx := Lib.hid (HBx.out.belowAll hb)
      have RB := Lib.hid (RB.out.below hb)
      clear hb
      refine hK _ _ (⟨HA.out.cell 0, HA.out.cell 1, HA.out.cell 2, HA.out.cell 3, HA.out.cell 4, HBx.out.cell 0, HBx.out.cell 1, HBx.out.cell 2, HBx.out.cell 3, HBx.out.cell 4, HQ.out.sb.cell 0, HQ.out.sb.cell 1, HQ.out.sb.cell 2, HQ.out.sb.cell 3, HQ.out.sb.cell 4, HQ.out.eb.cell 0, HQ.out.eb.cell 1, HQ.out.eb.cell 2, HQ.out.eb.cell 3, HQ.out.eb.cell 4, HQ.out.eb.cell 5, HQ.out.eb.cell 6, HQ.out.eb.cell 7, HQ.out.eb.cell 8, HQ.out.eb.cell 9, HQ.out.eb.cell 10, HQ.out.eb.cell 11⟩) ?_
      have hHeld := (show wq.cell? ⟨w6.heap.size, 0, none⟩ = some (.int .i64 rd) ∧ wq.cell? ⟨w6.heap.size, 1, none⟩ = some (.slice Aa LA.length ca) ∧ wq.cell? ⟨w6.heap.size, 2, none⟩ = some (.bool o0) ∧ wq.cell? ⟨w6.heap.size, 3, none⟩ = some (.bool o1) ∧ wq.cell? ⟨w6.heap.size, 4, none⟩ = some (.bool o2) ∧ wq.cell? ⟨w7.heap.size, 0, none⟩ = some (.int .i64 rd) ∧ wq.cell? ⟨w7.heap.size, 1, none⟩ = some (.slice Ab LB.length cb) ∧ wq.cell? ⟨w7.heap.size, 2, none⟩ = some (.bool o0) ∧ wq.cell? ⟨w7.heap.size, 3, none⟩ = some (.bool o1) ∧ wq.cell? ⟨w7.heap.size, 4, none⟩ = some (.bool o2) ∧ wq.cell? ⟨w.heap.size, 0, none⟩ = some (.int .i64 rd) ∧ wq.cell? ⟨w.heap.size, 1, none⟩ = some (.slice A l.length c) ∧ wq.cell? ⟨w.heap.size, 2, none⟩ = some (.bool o0) ∧ wq.cell? ⟨w.heap.size, 3, none⟩ = some (.bool o1) ∧ wq.cell? ⟨w.heap.size, 4, none⟩ = some (.bool o2) ∧ wq.cell? ⟨w.heap.size + 1, 0, none⟩ = some (.string e.pod.id) ∧ wq.cell? ⟨w.heap.size + 1, 1, none⟩ = some (.int .i64 e.pod.prio) ∧ wq.cell? ⟨w.heap.size + 1, 2, none⟩ = some (.bool e.pod.crit) ∧ wq.cell? ⟨w.heap.size + 1, 3, none⟩ = some (.int .i64 e.pod.q0) ∧ wq.cell? ⟨w.heap.size + 1, 4, none⟩ = some (.int .i64 e.pod.q1) ∧ wq.cell? ⟨w.heap.size + 1, 5, none⟩ = some (.int .i64 e.pod.q2) ∧ wq.cell? ⟨w.heap.size + 1, 6, none⟩ = some (.int .i64 e.pod.l0) ∧ wq.cell? ⟨w.heap.size + 1, 7, none⟩ = some (.int .i64 e.pod.l1) ∧ wq.cell? ⟨w.heap.size + 1, 8, none⟩ = some (.int .i64 e.pod.l2) ∧ wq.cell? ⟨w.heap.size + 1, 9, none⟩ = some (.string e.pod.image) ∧ wq.cell? ⟨w.heap.size + 1, 10, none⟩ = some (.int .i64 e.pod.size) ∧ wq.cell? ⟨w.heap.size + 1, 11, none⟩ = some (.int .i64 e.phase) from ⟨HA.out.cell 0, HA.out.cell 1, HA.out.cell 2, HA.out.cell 3, HA.out.cell 4, HBx.out.cell 0, HBx.out.cell 1, HBx.out.cell 2, HBx.out.cell 3, HBx.out.cell 4, HQ.out.sb.cell 0, HQ.out.sb.cell 1, HQ.out.sb.cell 2, HQ.out.sb.cell 3, HQ.out.sb.cell 4, HQ.out.eb.cell 0, HQ.out.eb.cell 1, HQ.out.eb.cell 2, HQ.out.eb.cell 3, HQ.out.eb.cell 4, HQ.out.eb.cell 5, HQ.out.eb.cell 6, HQ.out.eb.cell 7, HQ.out.eb.cell 8, HQ.out.eb.cell 9, HQ.out.eb.cell 10, HQ.out.eb.cell 11⟩)
      clear hK K
      simp only [Act.put, List.setIfInBounds_toArray, List.set_cons_zero, List.set_cons_succ]
      refine held_call 4 105 rfl rfl (by kernel_rfl) (by rfl) (fun K hK => ?_)
      go_simp
      go_at_call 20; (with_reducible refine (same24_any rd LA Aa A5 ca c5 o0 o1 o2 _ RA.out R5.out (by have := HLA.out; omega)).mono ?_); rintro x wq ⟨rfl, hb⟩
      clear R5
      have HQ := Lib.hid (HQ.out.below hb)
      have HA := Lib.hid (HA.out.belowAll hb)
      have RA := Lib.hid (RA.out.below hb)
      have HBx := Lib.hid (HBx.out.belowAll hb)
      have RB := Lib.hid (RB.out.below hb)
      clear hb
      refine hK _ _ (⟨HA.out.cell 0, HA.out.cell 1, HA.out.cell 2, HA.out.cell 3, HA.out.cell 4, HBx.out.cell 0, HBx.out.cell 1, HBx.out.cell 2, HBx.out.cell 3, HBx.out.cell 4, HQ.out.sb.cell 0, HQ.out.sb.cell 1, HQ.out.sb.cell 2, HQ.out.sb.cell 3, HQ.out.sb.cell 4, HQ.out.eb.cell 0, HQ.out.eb.cell 1, HQ.out.eb.cell 2, HQ.out.eb.cell 3, HQ.out.eb.cell 4, HQ.out.eb.cell 5, HQ.out.eb.cell 6, HQ.out.eb.cell 7, HQ.out.eb.cell 8, HQ.out.eb.cell 9, HQ.out.eb.cell 10, HQ.out.eb.cell 11⟩) ?_
      have hHeld := (show wq.cell? ⟨w6.heap.size, 0, none⟩ = some (.int .i64 rd) ∧ wq.cell? ⟨w6.heap.size, 1, none⟩ = some (.slice Aa LA.length ca) ∧ wq.cell? ⟨w6.heap.size, 2, none⟩ = some (.bool o0) ∧ wq.cell? ⟨w6.heap.size, 3, none⟩ = some (.bool o1) ∧ wq.cell? ⟨w6.heap.size, 4, none⟩ = some (.bool o2) ∧ wq.cell? ⟨w7.heap.size, 0, none⟩ = some (.int .i64 rd) ∧ wq.cell? ⟨w7.heap.size, 1, none⟩ = some (.slice Ab LB.length cb) ∧ wq.cell? ⟨w7.heap.size, 2, none⟩ = some (.bool o0) ∧ wq.cell? ⟨w7.heap.size, 3, none⟩ = some (.bool o1) ∧ wq.cell? ⟨w7.heap.size, 4, none⟩ = some (.bool o2) ∧ wq.cell? ⟨w.heap.size, 0, none⟩ = some (.int .i64 rd) ∧ wq.cell? ⟨w.heap.size, 1, none⟩ = some (.slice A l.length c) ∧ wq.cell? ⟨w.heap.size, 2, none⟩ = some (.bool o0) ∧ wq.cell? ⟨w.heap.size, 3, none⟩ = some (.bool o1) ∧ wq.cell? ⟨w.heap.size, 4, none⟩ = some (.bool o2) ∧ wq.cell? ⟨w.heap.size + 1, 0, none⟩ = some (.string e.pod.id) ∧ wq.cell? ⟨w.heap.size + 1, 1, none⟩ = some (.int .i64 e.pod.prio) ∧ wq.cell? ⟨w.heap.size + 1, 2, none⟩ = some (.bool e.pod.crit) ∧ wq.cell? ⟨w.heap.size + 1, 3, none⟩ = some (.int .i64 e.pod.q0) ∧ wq.cell? ⟨w.heap.size + 1, 4, none⟩ = some (.int .i64 e.pod.q1) ∧ wq.cell? ⟨w.heap.size + 1, 5, none⟩ = some (.int .i64 e.pod.q2) ∧ wq.cell? ⟨w.heap.size + 1, 6, none⟩ = some (.int .i64 e.pod.l0) ∧ wq.cell? ⟨w.heap.size + 1, 7, none⟩ = some (.int .i64 e.pod.l1) ∧ wq.cell? ⟨w.heap.size + 1, 8, none⟩ = some (.int .i64 e.pod.l2) ∧ wq.cell? ⟨w.heap.size + 1, 9, none⟩ = some (.string e.pod.image) ∧ wq.cell? ⟨w.heap.size + 1, 10, none⟩ = some (.int .i64 e.pod.size) ∧ wq.cell? ⟨w.heap.size + 1, 11, none⟩ = some (.int .i64 e.phase) from ⟨HA.out.cell 0, HA.out.cell 1, HA.out.cell 2, HA.out.cell 3, HA.out.cell 4, HBx.out.cell 0, HBx.out.cell 1, HBx.out.cell 2, HBx.out.cell 3, HBx.out.cell 4, HQ.out.sb.cell 0, HQ.out.sb.cell 1, HQ.out.sb.cell 2, HQ.out.sb.cell 3, HQ.out.sb.cell 4, HQ.out.eb.cell 0, HQ.out.eb.cell 1, HQ.out.eb.cell 2, HQ.out.eb.cell 3, HQ.out.eb.cell 4, HQ.out.eb.cell 5, HQ.out.eb.cell 6, HQ.out.eb.cell 7, HQ.out.eb.cell 8, HQ.out.eb.cell 9, HQ.out.eb.cell 10, HQ.out.eb.cell 11⟩)
      clear hK K
      simp only [Act.put, List.setIfInBounds_toArray, List.set_cons_zero, List.set_cons_succ]
      refine held_take 5 106 (.bool true) rfl rfl (by kernel_rfl) (by kernel_rfl) (by kernel_rfl) (fun _ _ _ h => h) (by rfl) (by intro w' hSw; (try dsimp only at hSw); go_simp; (try (with_reducible rfl))) (by assumption) ?_
      simp only [Act.put, List.setIfInBounds_toArray, List.set_cons_zero, List.set_cons_succ]
      refine held_take 6 107 (.agg #[.int .i64 rd, .slice Ab LB.length cb, .bool o0, .bool o1, .bool o2]) rfl rfl (by kernel_rfl) (by kernel_rfl) (by kernel_rfl) (fun _ _ _ h => h) (by rfl) (by intro w' hSw; (try dsimp only at hSw); go_simp; (try (with_reducible rfl))) (by assumption) ?_
      simp only [Act.put, List.setIfInBounds_toArray, List.set_cons_zero, List.set_cons_succ]
      refine held_take 7 108 (.agg #[.int .i64 rd, .slice A l.length c, .bool o0, .bool o1, .bool o2]) rfl rfl (by kernel_rfl) (by kernel_rfl) (by kernel_rfl) (fun _ _ _ h => h) (by rfl) (by intro w' hSw; (try dsimp only at hSw); go_simp; (try (with_reducible rfl))) (by assumption) ?_
      simp only [Act.put, List.setIfInBounds_toArray, List.set_cons_zero, List.set_cons_succ]
      refine held_take 8 109 (.string id) rfl rfl (by kernel_rfl) (by kernel_rfl) (by kernel_rfl) (fun _ _ _ h => h) (by rfl) (by intro w' hSw; (try dsimp only at hSw); go_simp; (try (with_reducible rfl))) (by assumption) ?_
      simp only [Act.put, List.setIfInBounds_toArray, List.set_cons_zero, List.set_cons_succ]
      refine held_call 9 110 rfl rfl (by kernel_rfl) (by rfl) (fun K hK => ?_)
      go_simp
      go_at_call 28; (with_reducible refine (HX24.out A c _ (HR.out.below HQ.out.bel) (by omega)).mono ?_); rintro x wq ⟨A6, c6, rfl, ho, hb⟩
      have R6 := Lib.hid ho.toRds
      clear ho
      have HQ := Lib.hid (HQ.out.below hb)
      have HA := Lib.hid (HA.out.belowAll hb)
      have RA := Lib.hid (RA.out.below hb)
      have HBx := Lib.hid (HBx.out.belowAll hb)
      have RB := Lib.hid (RB.out.below hb)
      clear hb
      refine hK _ _ (⟨HA.out.cell 0, HA.out.cell 1, HA.out.cell 2, HA.out.cell 3, HA.out.cell 4, HBx.out.cell 0, HBx.out.cell 1, HBx.out.cell 2, HBx.out.cell 3, HBx.out.cell 4, HQ.out.sb.cell 0, HQ.out.sb.cell 1, HQ.out.sb.cell 2, HQ.out.sb.cell 3, HQ.out.sb.cell 4, HQ.out.eb.cell 0, HQ.out.eb.cell 1, HQ.out.eb.cell 2, HQ.out.eb.cell 3, HQ.out.eb.cell 4, HQ.out.eb.cell 5, HQ.out.eb.cell 6, HQ.out.eb.cell 7, HQ.out.eb.cell 8, HQ.out.eb.cell 9, HQ.out.eb.cell 10, HQ.out.eb.cell 11⟩) ?_
      have hHeld := (show wq.cell? ⟨w6.heap.size, 0, none⟩ = some (.int .i64 rd) ∧ wq.cell? ⟨w6.heap.size, 1, none⟩ = some (.slice Aa LA.length ca) ∧ wq.cell? ⟨w6.heap.size, 2, none⟩ = some (.bool o0) ∧ wq.cell? ⟨w6.heap.size, 3, none⟩ = some (.bool o1) ∧ wq.cell? ⟨w6.heap.size, 4, none⟩ = some (.bool o2) ∧ wq.cell? ⟨w7.heap.size, 0, none⟩ = some (.int .i64 rd) ∧ wq.cell? ⟨w7.heap.size, 1, none⟩ = some (.slice Ab LB.length cb) ∧ wq.cell? ⟨w7.heap.size, 2, none⟩ = some (.bool o0) ∧ wq.cell? ⟨w7.heap.size, 3, none⟩ = some (.bool o1) ∧ wq.cell? ⟨w7.heap.size, 4, none⟩ = some (.bool o2) ∧ wq.cell? ⟨w.heap.size, 0, none⟩ = some (.int .i64 rd) ∧ wq.cell? ⟨w.heap.size, 1, none⟩ = some (.slice A l.length c) ∧ wq.cell? ⟨w.heap.size, 2, none⟩ = some (.bool o0) ∧ wq.cell? ⟨w.heap.size, 3, none⟩ = some (.bool o1) ∧ wq.cell? ⟨w.heap.size, 4, none⟩ = some (.bool o2) ∧ wq.cell? ⟨w.heap.size + 1, 0, none⟩ = some (.string e.pod.id) ∧ wq.cell? ⟨w.heap.size + 1, 1, none⟩ = some (.int .i64 e.pod.prio) ∧ wq.cell? ⟨w.heap.size + 1, 2, none⟩ = some (.bool e.pod.crit) ∧ wq.cell? ⟨w.heap.size + 1, 3, none⟩ = some (.int .i64 e.pod.q0) ∧ wq.cell? ⟨w.heap.size + 1, 4, none⟩ = some (.int .i64 e.pod.q1) ∧ wq.cell? ⟨w.heap.size + 1, 5, none⟩ = some (.int .i64 e.pod.q2) ∧ wq.cell? ⟨w.heap.size + 1, 6, none⟩ = some (.int .i64 e.pod.l0) ∧ wq.cell? ⟨w.heap.size + 1, 7, none⟩ = some (.int .i64 e.pod.l1) ∧ wq.cell? ⟨w.heap.size + 1, 8, none⟩ = some (.int .i64 e.pod.l2) ∧ wq.cell? ⟨w.heap.size + 1, 9, none⟩ = some (.string e.pod.image) ∧ wq.cell? ⟨w.heap.size + 1, 10, none⟩ = some (.int .i64 e.pod.size) ∧ wq.cell? ⟨w.heap.size + 1, 11, none⟩ = some (.int .i64 e.phase) from ⟨HA.out.cell 0, HA.out.cell 1, HA.out.cell 2, HA.out.cell 3, HA.out.cell 4, HBx.out.cell 0, HBx.out.cell 1, HBx.out.cell 2, HBx.out.cell 3, HBx.out.cell 4, HQ.out.sb.cell 0, HQ.out.sb.cell 1, HQ.out.sb.cell 2, HQ.out.sb.cell 3, HQ.out.sb.cell 4, HQ.out.eb.cell 0, HQ.out.eb.cell 1, HQ.out.eb.cell 2, HQ.out.eb.cell 3, HQ.out.eb.cell 4, HQ.out.eb.cell 5, HQ.out.eb.cell 6, HQ.out.eb.cell 7, HQ.out.eb.cell 8, HQ.out.eb.cell 9, HQ.out.eb.cell 10, HQ.out.eb.cell 11⟩)
      clear hK K
      simp only [Act.put, List.setIfInBounds_toArray, List.set_cons_zero, List.set_cons_succ]
      refine held_call 10 111 rfl rfl (by kernel_rfl) (by rfl) (fun K hK => ?_)
      go_simp
      go_at_call 20; (with_reducible refine (same24_any rd LB Ab A6 cb c6 o0 o1 o2 _ RB.out R6.out (by have := HLB.out; omega)).mono ?_); rintro x wq ⟨rfl, hb⟩
      clear R6
      have HQ := Lib.hid (HQ.out.below hb)
      have HA := Lib.hid (HA.out.belowAll hb)
      have RA := Lib.hid (RA.out.below hb)
      have HBx := Lib.hid (HBx.out.belowAll hb)
      have RB := Lib.hid (RB.out.below hb)
      clear hb
      refine hK _ _ (⟨HA.out.cell 0, HA.out.cell 1, HA.out.cell 2, HA.out.cell 3, HA.out.cell 4, HBx.out.cell 0, HBx.out.cell 1, HBx.out.cell 2, HBx.out.cell 3, HBx.out.cell 4, HQ.out.sb.cell 0, HQ.out.sb.cell 1, HQ.out.sb.cell 2, HQ.out.sb.cell 3, HQ.out.sb.cell 4, HQ.out.eb.cell 0, HQ.out.eb.cell 1, HQ.out.eb.cell 2, HQ.out.eb.cell 3, HQ.out.eb.cell 4, HQ.out.eb.cell 5, HQ.out.eb.cell 6, HQ.out.eb.cell 7, HQ.out.eb.cell 8, HQ.out.eb.cell 9, HQ.out.eb.cell 10, HQ.out.eb.cell 11⟩) ?_
      have hHeld := (show wq.cell? ⟨w6.heap.size, 0, none⟩ = some (.int .i64 rd) ∧ wq.cell? ⟨w6.heap.size, 1, none⟩ = some (.slice Aa LA.length ca) ∧ wq.cell? ⟨w6.heap.size, 2, none⟩ = some (.bool o0) ∧ wq.cell? ⟨w6.heap.size, 3, none⟩ = some (.bool o1) ∧ wq.cell? ⟨w6.heap.size, 4, none⟩ = some (.bool o2) ∧ wq.cell? ⟨w7.heap.size, 0, none⟩ = some (.int .i64 rd) ∧ wq.cell? ⟨w7.heap.size, 1, none⟩ = some (.slice Ab LB.length cb) ∧ wq.cell? ⟨w7.heap.size, 2, none⟩ = some (.bool o0) ∧ wq.cell? ⟨w7.heap.size, 3, none⟩ = some (.bool o1) ∧ wq.cell? ⟨w7.heap.size, 4, none⟩ = some (.bool o2) ∧ wq.cell? ⟨w.heap.size, 0, none⟩ = some (.int .i64 rd) ∧ wq.cell? ⟨w.heap.size, 1, none⟩ = some (.slice A l.length c) ∧ wq.cell? ⟨w.heap.size, 2, none⟩ = some (.bool o0) ∧ wq.cell? ⟨w.heap.size, 3, none⟩ = some (.bool o1) ∧ wq.cell? ⟨w.heap.size, 4, none⟩ = some (.bool o2) ∧ wq.cell? ⟨w.heap.size + 1, 0, none⟩ = some (.string e.pod.id) ∧ wq.cell? ⟨w.heap.size + 1, 1, none⟩ = some (.int .i64 e.pod.prio) ∧ wq.cell? ⟨w.heap.size + 1, 2, none⟩ = some (.bool e.pod.crit) ∧ wq.cell? ⟨w.heap.size + 1, 3, none⟩ = some (.int .i64 e.pod.q0) ∧ wq.cell? ⟨w.heap.size + 1, 4, none⟩ = some (.int .i64 e.pod.q1) ∧ wq.cell? ⟨w.heap.size + 1, 5, none⟩ = some (.int .i64 e.pod.q2) ∧ wq.cell? ⟨w.heap.size + 1, 6, none⟩ = some (.int .i64 e.pod.l0) ∧ wq.cell? ⟨w.heap.size + 1, 7, none⟩ = some (.int .i64 e.pod.l1) ∧ wq.cell? ⟨w.heap.size + 1, 8, none⟩ = some (.int .i64 e.pod.l2) ∧ wq.cell? ⟨w.heap.size + 1, 9, none⟩ = some (.string e.pod.image) ∧ wq.cell? ⟨w.heap.size + 1, 10, none⟩ = some (.int .i64 e.pod.size) ∧ wq.cell? ⟨w.heap.size + 1, 11, none⟩ = some (.int .i64 e.phase) from ⟨HA.out.cell 0, HA.out.cell 1, HA.out.cell 2, HA.out.cell 3, HA.out.cell 4, HBx.out.cell 0, HBx.out.cell 1, HBx.out.cell 2, HBx.out.cell 3, HBx.out.cell 4, HQ.out.sb.cell 0, HQ.out.sb.cell 1, HQ.out.sb.cell 2, HQ.out.sb.cell 3, HQ.out.sb.cell 4, HQ.out.eb.cell 0, HQ.out.eb.cell 1, HQ.out.eb.cell 2, HQ.out.eb.cell 3, HQ.out.eb.cell 4, HQ.out.eb.cell 5, HQ.out.eb.cell 6, HQ.out.eb.cell 7, HQ.out.eb.cell 8, HQ.out.eb.cell 9, HQ.out.eb.cell 10, HQ.out.eb.cell 11⟩)
      clear hK K
      simp only [Act.put, List.setIfInBounds_toArray, List.set_cons_zero, List.set_cons_succ]
      refine held_take 11 112 (.bool true) rfl rfl (by kernel_rfl) (by kernel_rfl) (by kernel_rfl) (fun _ _ _ h => h) (by rfl) (by intro w' hSw; (try dsimp only at hSw); go_simp; (try (with_reducible rfl))) (by assumption) ?_
      simp only [Act.put, List.setIfInBounds_toArray, List.set_cons_zero, List.set_cons_succ]
      refine held_take 12 6 (.bool true) rfl rfl (by kernel_rfl) (by kernel_rfl) (by kernel_rfl) (fun _ _ _ h => h) (by rfl) (by intro w' hSw; (try dsimp only at hSw); go_simp; (try (with_reducible rfl))) (by assumption) ?_
      simp only [Act.put, List.setIfInBounds_toArray, List.set_cons_zero, List.set_cons_succ]
      refine wpAnyH_done (by kernel_rfl) ?_ _
      clear hHeld
      go_wp2_with fail
      go_ret
      exact ⟨rfl, HQ.out.bel⟩
end Go.Proofs.YtakgblgbfbpmoaaDoor
