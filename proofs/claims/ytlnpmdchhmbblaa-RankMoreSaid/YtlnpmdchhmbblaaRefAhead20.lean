/- bilgeref20.Ahead. -/
import Derived.Test.YtlnpmdchhmbblaaRankKeys
import Derived.Test.YtlnpmdchhmbblaaRef20
namespace Go.Proofs.Ytlnpmdchhmbblaa
open Go.RowKit

theorem aheadB_val {k : Int} {a b : Pd} {us : List Us} {x y : Int} (hx : excess k a us = x) (hy : excess k b us = y) :
    aheadB k a b us = if (decide (0 < x) != decide (0 < y)) = true then decide (0 < x) else if (a.prio != b.prio) = true then decide (a.prio < b.prio) else if (x != y) = true then decide (y < x) else blt a.id b.id := by
  unfold aheadB keyD klt
  rw [hx, hy]
  by_cases h1 : 0 < x <;> by_cases h2 : 0 < y <;> by_cases h3 : a.prio = b.prio <;> by_cases h4 : x = y <;> simp [h1, h2, h3, h4]
theorem refAskedA {a b : Pd} {s : Sp} {w W : World} {p : Pd} {k q : Int} (hq : asked p k = q) (_ : AQ a b s w W) :
    Calls Try.prog 21 #[.agg p.cells, .int .i64 k] W fun e w' => e = .returned (.int .i64 q) ∧ Below W.heap.size W w' := by subst hq; exact refAsked_any p k W
theorem refOfA {a b : Pd} {s : Sp} {w W : World} {id : ByteArray} {x : Us} (hx : usOf s.uses id = x) (h : AQ a b s w W) (hl : s.uses.length ≤ 100000) (hs : SortedU s.uses) :
    Calls Try.prog 37 #[.agg s.cells, .string id] W fun e w' => e = .returned (.agg #[.int .i64 x.a0, .int .i64 x.a1, .int .i64 x.a2]) ∧ Below W.heap.size W w' := refOf_any s id x W h.rds hl hs hx
set_option maxRecDepth 100000 in
set_option maxHeartbeats 8000000 in
theorem refAhead_0 {a b : Pd} {s : Sp} (w : World) (hr : Rds w encU s.A s.uses) (hl : s.uses.length ≤ 100000) (hs : SortedU s.uses) (ha : ExOk 0 a s.uses) (hb : ExOk 0 b s.uses) :
    Calls Try.prog 22 #[.int .i64 0, .agg a.cells, .agg b.cells, .agg s.cells] w fun e w' => e = .returned (.bool (aheadB 0 a b s.uses)) ∧ Below w.heap.size w w' := by
  have mixed : Try.prog.follows Departure.mixedOrders = true := by kernel_rfl
  have HQd := Lib.hid (AQ.new a b s w hr)
  have HS := Lib.hid hs
  obtain ⟨U, HU⟩ : ∃ U, Hid (usOf s.uses a.id = U) := ⟨_, Lib.hid rfl⟩
  obtain ⟨U2, HU2⟩ : ∃ U, Hid (usOf s.uses b.id = U) := ⟨_, Lib.hid rfl⟩
  obtain ⟨Q1, HQ1⟩ : ∃ q, Hid (asked a 0 = q) := ⟨_, Lib.hid rfl⟩
  obtain ⟨Q2, HQ2⟩ : ∃ q, Hid (asked b 0 = q) := ⟨_, Lib.hid rfl⟩
  obtain ⟨x, hx⟩ : ∃ x, excess 0 a s.uses = x := ⟨_, rfl⟩
  obtain ⟨y, hy⟩ : ∃ y, excess 0 b s.uses = y := ⟨_, rfl⟩
  have HEx : Hid (U.a0 - Q1 = x ∧ IntKind.i64.wrap x = x) := ⟨by rw [← hx]; unfold excess; rw [HU.out, HQ1.out]; rfl, by rw [IntKind.wrap_i64]; have := ha.lo; have := ha.hi; omega⟩
  have HEy : Hid (U2.a0 - Q2 = y ∧ IntKind.i64.wrap y = y) := ⟨by rw [← hy]; unfold excess; rw [HU2.out, HQ2.out]; rfl, by rw [IntKind.wrap_i64]; have := hb.lo; have := hb.hi; omega⟩
  have HV := Lib.hid (aheadB_val hx hy)
  clear hr hs hx hy ha hb
  go_enter Try.func22, Try.ntmps22
  go_wp2_with fail
  generalize (((w.alloc (.cells a.cells 24)).alloc (.cells b.cells 24)).alloc (.cells s.cells 36)) = W0 at *
  have HQ := Lib.hid HQd.out.drew
  go_cut [9] (fun v W => v = .int .i64 x ∧ AQ a b s w W)
  case first =>
    have hxe : U.a0 - Q1 = x := HEx.out.1
    have hwe : IntKind.i64.wrap (U.a0 - Q1) = x := by rw [hxe]; exact HEx.out.2
    go_region_held3 (fun w' => w'.cell? ⟨w.heap.size, 0, none⟩ = some (.string a.id) ∧ w'.cell? ⟨w.heap.size, 1, none⟩ = some (.int .i64 a.prio) ∧ w'.cell? ⟨w.heap.size, 2, none⟩ = some (.bool a.crit) ∧ w'.cell? ⟨w.heap.size, 3, none⟩ = some (.int .i64 a.q0) ∧ w'.cell? ⟨w.heap.size, 4, none⟩ = some (.int .i64 a.q1) ∧ w'.cell? ⟨w.heap.size, 5, none⟩ = some (.int .i64 a.q2) ∧ w'.cell? ⟨w.heap.size, 6, none⟩ = some (.int .i64 a.l0) ∧ w'.cell? ⟨w.heap.size, 7, none⟩ = some (.int .i64 a.l1) ∧ w'.cell? ⟨w.heap.size, 8, none⟩ = some (.int .i64 a.l2) ∧ w'.cell? ⟨w.heap.size, 9, none⟩ = some (.string a.image) ∧ w'.cell? ⟨w.heap.size, 10, none⟩ = some (.int .i64 a.size) ∧ w'.cell? ⟨w.heap.size + 1, 0, none⟩ = some (.string b.id) ∧ w'.cell? ⟨w.heap.size + 1, 1, none⟩ = some (.int .i64 b.prio) ∧ w'.cell? ⟨w.heap.size + 1, 2, none⟩ = some (.bool b.crit) ∧ w'.cell? ⟨w.heap.size + 1, 3, none⟩ = some (.int .i64 b.q0) ∧ w'.cell? ⟨w.heap.size + 1, 4, none⟩ = some (.int .i64 b.q1) ∧ w'.cell? ⟨w.heap.size + 1, 5, none⟩ = some (.int .i64 b.q2) ∧ w'.cell? ⟨w.heap.size + 1, 6, none⟩ = some (.int .i64 b.l0) ∧ w'.cell? ⟨w.heap.size + 1, 7, none⟩ = some (.int .i64 b.l1) ∧ w'.cell? ⟨w.heap.size + 1, 8, none⟩ = some (.int .i64 b.l2) ∧ w'.cell? ⟨w.heap.size + 1, 9, none⟩ = some (.string b.image) ∧ w'.cell? ⟨w.heap.size + 1, 10, none⟩ = some (.int .i64 b.size) ∧ w'.cell? ⟨w.heap.size + 1 + 1, 0, none⟩ = some (.int .i64 s.time) ∧ w'.cell? ⟨w.heap.size + 1 + 1, 1, none⟩ = some (.int .i64 s.v0) ∧ w'.cell? ⟨w.heap.size + 1 + 1, 2, none⟩ = some (.int .i64 s.v1) ∧ w'.cell? ⟨w.heap.size + 1 + 1, 3, none⟩ = some (.int .i64 s.v2) ∧ w'.cell? ⟨w.heap.size + 1 + 1, 4, none⟩ = some (.slice s.A s.uses.length s.c)) (first | with_reducible exact HQ.out.cells)
     (first
       | (go_at_call 37; with_reducible refine (refOfA HU.out HQ.out hl HS.out).mono ?_; rintro e v1 ⟨rfl, hb⟩; have HQ := Lib.hid (HQ.out.below hb); clear hb)
       | (go_at_call 21; with_reducible refine (refAskedA HQ1.out HQ.out).mono ?_; rintro e v1 ⟨rfl, hb⟩; have HQ := Lib.hid (HQ.out.below hb); clear hb))
    all_goals
      go_wp2_with fail
      go_meet
      exact ⟨by rw [HEx.out.2], HQ.out⟩
  case rest =>
  obtain ⟨rfl, hq⟩ := hcut
  have HQd := Lib.hid hq
  clear hq HQ
  go_wp2_with fail
  have HQ := Lib.hid HQd.out.drew
  go_cut [9, 10] (fun v u W => v = .int .i64 x ∧ u = .int .i64 y ∧ AQ a b s w W)
  case first =>
    have hxe : U2.a0 - Q2 = y := HEy.out.1
    have hwe : IntKind.i64.wrap (U2.a0 - Q2) = y := by rw [hxe]; exact HEy.out.2
    go_region_held3 (fun w' => w'.cell? ⟨w.heap.size, 0, none⟩ = some (.string a.id) ∧ w'.cell? ⟨w.heap.size, 1, none⟩ = some (.int .i64 a.prio) ∧ w'.cell? ⟨w.heap.size, 2, none⟩ = some (.bool a.crit) ∧ w'.cell? ⟨w.heap.size, 3, none⟩ = some (.int .i64 a.q0) ∧ w'.cell? ⟨w.heap.size, 4, none⟩ = some (.int .i64 a.q1) ∧ w'.cell? ⟨w.heap.size, 5, none⟩ = some (.int .i64 a.q2) ∧ w'.cell? ⟨w.heap.size, 6, none⟩ = some (.int .i64 a.l0) ∧ w'.cell? ⟨w.heap.size, 7, none⟩ = some (.int .i64 a.l1) ∧ w'.cell? ⟨w.heap.size, 8, none⟩ = some (.int .i64 a.l2) ∧ w'.cell? ⟨w.heap.size, 9, none⟩ = some (.string a.image) ∧ w'.cell? ⟨w.heap.size, 10, none⟩ = some (.int .i64 a.size) ∧ w'.cell? ⟨w.heap.size + 1, 0, none⟩ = some (.string b.id) ∧ w'.cell? ⟨w.heap.size + 1, 1, none⟩ = some (.int .i64 b.prio) ∧ w'.cell? ⟨w.heap.size + 1, 2, none⟩ = some (.bool b.crit) ∧ w'.cell? ⟨w.heap.size + 1, 3, none⟩ = some (.int .i64 b.q0) ∧ w'.cell? ⟨w.heap.size + 1, 4, none⟩ = some (.int .i64 b.q1) ∧ w'.cell? ⟨w.heap.size + 1, 5, none⟩ = some (.int .i64 b.q2) ∧ w'.cell? ⟨w.heap.size + 1, 6, none⟩ = some (.int .i64 b.l0) ∧ w'.cell? ⟨w.heap.size + 1, 7, none⟩ = some (.int .i64 b.l1) ∧ w'.cell? ⟨w.heap.size + 1, 8, none⟩ = some (.int .i64 b.l2) ∧ w'.cell? ⟨w.heap.size + 1, 9, none⟩ = some (.string b.image) ∧ w'.cell? ⟨w.heap.size + 1, 10, none⟩ = some (.int .i64 b.size) ∧ w'.cell? ⟨w.heap.size + 1 + 1, 0, none⟩ = some (.int .i64 s.time) ∧ w'.cell? ⟨w.heap.size + 1 + 1, 1, none⟩ = some (.int .i64 s.v0) ∧ w'.cell? ⟨w.heap.size + 1 + 1, 2, none⟩ = some (.int .i64 s.v1) ∧ w'.cell? ⟨w.heap.size + 1 + 1, 3, none⟩ = some (.int .i64 s.v2) ∧ w'.cell? ⟨w.heap.size + 1 + 1, 4, none⟩ = some (.slice s.A s.uses.length s.c)) (first | with_reducible exact HQ.out.cells)
     (first
       | (go_at_call 37; with_reducible refine (refOfA HU2.out HQ.out hl HS.out).mono ?_; rintro e v1 ⟨rfl, hb⟩; have HQ := Lib.hid (HQ.out.below hb); clear hb)
       | (go_at_call 21; with_reducible refine (refAskedA HQ2.out HQ.out).mono ?_; rintro e v1 ⟨rfl, hb⟩; have HQ := Lib.hid (HQ.out.below hb); clear hb))
    all_goals
      go_wp2_with fail
      go_meet
      exact ⟨rfl, by rw [HEy.out.2], HQ.out⟩
  case rest =>
  obtain ⟨rfl, rfl, hq⟩ := hcut
  have HQ := Lib.hid hq
  clear hq HQd
  have ca := HQ.out.pa.cell
  have cb := HQ.out.pb.cell
  cases d1 : decide (0 < x)
  · cases d2 : decide (0 < y)
    · cases d3 : (a.prio != b.prio)
      · cases d4 : (x != y)
        · have HW := Lib.hid (HV.out.trans (show _ = blt a.id b.id by rw [d1, d2, d3, d4]; rfl))
          clear HV HEx HEy HS HU HU2 HQ1 HQ2
          go_wp2_with fail
          go_ret
          exact ⟨ret_bool HW.out.symm, HQ.out.bel⟩
        · have HW := Lib.hid (HV.out.trans (show _ = decide (y < x) by rw [d1, d2, d3, d4]; rfl))
          clear HV HEx HEy HS HU HU2 HQ1 HQ2
          go_wp2_with fail
          go_ret
          exact ⟨ret_bool HW.out.symm, HQ.out.bel⟩
      · have HW := Lib.hid (HV.out.trans (show _ = decide (a.prio < b.prio) by rw [d1, d2, d3]; rfl))
        clear HV HEx HEy HS HU HU2 HQ1 HQ2
        go_wp2_with fail
        go_ret
        exact ⟨ret_bool HW.out.symm, HQ.out.bel⟩
    · have HW := Lib.hid (HV.out.trans (show _ = false by rw [d1, d2]; rfl))
      clear HV HEx HEy HS HU HU2 HQ1 HQ2
      go_wp2_with fail
      go_ret
      exact ⟨ret_bool HW.out.symm, HQ.out.bel⟩
  · cases d2 : decide (0 < y)
    · have HW := Lib.hid (HV.out.trans (show _ = true by rw [d1, d2]; rfl))
      clear HV HEx HEy HS HU HU2 HQ1 HQ2
      go_wp2_with fail
      go_ret
      exact ⟨ret_bool HW.out.symm, HQ.out.bel⟩
    · cases d3 : (a.prio != b.prio)
      · cases d4 : (x != y)
        · have HW := Lib.hid (HV.out.trans (show _ = blt a.id b.id by rw [d1, d2, d3, d4]; rfl))
          clear HV HEx HEy HS HU HU2 HQ1 HQ2
          go_wp2_with fail
          go_ret
          exact ⟨ret_bool HW.out.symm, HQ.out.bel⟩
        · have HW := Lib.hid (HV.out.trans (show _ = decide (y < x) by rw [d1, d2, d3, d4]; rfl))
          clear HV HEx HEy HS HU HU2 HQ1 HQ2
          go_wp2_with fail
          go_ret
          exact ⟨ret_bool HW.out.symm, HQ.out.bel⟩
      · have HW := Lib.hid (HV.out.trans (show _ = decide (a.prio < b.prio) by rw [d1, d2, d3]; rfl))
        clear HV HEx HEy HS HU HU2 HQ1 HQ2
        go_wp2_with fail
        go_ret
        exact ⟨ret_bool HW.out.symm, HQ.out.bel⟩
set_option maxRecDepth 100000 in
set_option maxHeartbeats 8000000 in
theorem refAhead_1 {a b : Pd} {s : Sp} (w : World) (hr : Rds w encU s.A s.uses) (hl : s.uses.length ≤ 100000) (hs : SortedU s.uses) (ha : ExOk 1 a s.uses) (hb : ExOk 1 b s.uses) :
    Calls Try.prog 22 #[.int .i64 1, .agg a.cells, .agg b.cells, .agg s.cells] w fun e w' => e = .returned (.bool (aheadB 1 a b s.uses)) ∧ Below w.heap.size w w' := by
  have mixed : Try.prog.follows Departure.mixedOrders = true := by kernel_rfl
  have HQd := Lib.hid (AQ.new a b s w hr)
  have HS := Lib.hid hs
  obtain ⟨U, HU⟩ : ∃ U, Hid (usOf s.uses a.id = U) := ⟨_, Lib.hid rfl⟩
  obtain ⟨U2, HU2⟩ : ∃ U, Hid (usOf s.uses b.id = U) := ⟨_, Lib.hid rfl⟩
  obtain ⟨Q1, HQ1⟩ : ∃ q, Hid (asked a 1 = q) := ⟨_, Lib.hid rfl⟩
  obtain ⟨Q2, HQ2⟩ : ∃ q, Hid (asked b 1 = q) := ⟨_, Lib.hid rfl⟩
  obtain ⟨x, hx⟩ : ∃ x, excess 1 a s.uses = x := ⟨_, rfl⟩
  obtain ⟨y, hy⟩ : ∃ y, excess 1 b s.uses = y := ⟨_, rfl⟩
  have HEx : Hid (U.a1 - Q1 = x ∧ IntKind.i64.wrap x = x) := ⟨by rw [← hx]; unfold excess; rw [HU.out, HQ1.out]; rfl, by rw [IntKind.wrap_i64]; have := ha.lo; have := ha.hi; omega⟩
  have HEy : Hid (U2.a1 - Q2 = y ∧ IntKind.i64.wrap y = y) := ⟨by rw [← hy]; unfold excess; rw [HU2.out, HQ2.out]; rfl, by rw [IntKind.wrap_i64]; have := hb.lo; have := hb.hi; omega⟩
  have HV := Lib.hid (aheadB_val hx hy)
  clear hr hs hx hy ha hb
  go_enter Try.func22, Try.ntmps22
  go_wp2_with fail
  generalize (((w.alloc (.cells a.cells 24)).alloc (.cells b.cells 24)).alloc (.cells s.cells 36)) = W0 at *
  have HQ := Lib.hid HQd.out.drew
  go_cut [9] (fun v W => v = .int .i64 x ∧ AQ a b s w W)
  case first =>
    have hxe : U.a1 - Q1 = x := HEx.out.1
    have hwe : IntKind.i64.wrap (U.a1 - Q1) = x := by rw [hxe]; exact HEx.out.2
    go_region_held3 (fun w' => w'.cell? ⟨w.heap.size, 0, none⟩ = some (.string a.id) ∧ w'.cell? ⟨w.heap.size, 1, none⟩ = some (.int .i64 a.prio) ∧ w'.cell? ⟨w.heap.size, 2, none⟩ = some (.bool a.crit) ∧ w'.cell? ⟨w.heap.size, 3, none⟩ = some (.int .i64 a.q0) ∧ w'.cell? ⟨w.heap.size, 4, none⟩ = some (.int .i64 a.q1) ∧ w'.cell? ⟨w.heap.size, 5, none⟩ = some (.int .i64 a.q2) ∧ w'.cell? ⟨w.heap.size, 6, none⟩ = some (.int .i64 a.l0) ∧ w'.cell? ⟨w.heap.size, 7, none⟩ = some (.int .i64 a.l1) ∧ w'.cell? ⟨w.heap.size, 8, none⟩ = some (.int .i64 a.l2) ∧ w'.cell? ⟨w.heap.size, 9, none⟩ = some (.string a.image) ∧ w'.cell? ⟨w.heap.size, 10, none⟩ = some (.int .i64 a.size) ∧ w'.cell? ⟨w.heap.size + 1, 0, none⟩ = some (.string b.id) ∧ w'.cell? ⟨w.heap.size + 1, 1, none⟩ = some (.int .i64 b.prio) ∧ w'.cell? ⟨w.heap.size + 1, 2, none⟩ = some (.bool b.crit) ∧ w'.cell? ⟨w.heap.size + 1, 3, none⟩ = some (.int .i64 b.q0) ∧ w'.cell? ⟨w.heap.size + 1, 4, none⟩ = some (.int .i64 b.q1) ∧ w'.cell? ⟨w.heap.size + 1, 5, none⟩ = some (.int .i64 b.q2) ∧ w'.cell? ⟨w.heap.size + 1, 6, none⟩ = some (.int .i64 b.l0) ∧ w'.cell? ⟨w.heap.size + 1, 7, none⟩ = some (.int .i64 b.l1) ∧ w'.cell? ⟨w.heap.size + 1, 8, none⟩ = some (.int .i64 b.l2) ∧ w'.cell? ⟨w.heap.size + 1, 9, none⟩ = some (.string b.image) ∧ w'.cell? ⟨w.heap.size + 1, 10, none⟩ = some (.int .i64 b.size) ∧ w'.cell? ⟨w.heap.size + 1 + 1, 0, none⟩ = some (.int .i64 s.time) ∧ w'.cell? ⟨w.heap.size + 1 + 1, 1, none⟩ = some (.int .i64 s.v0) ∧ w'.cell? ⟨w.heap.size + 1 + 1, 2, none⟩ = some (.int .i64 s.v1) ∧ w'.cell? ⟨w.heap.size + 1 + 1, 3, none⟩ = some (.int .i64 s.v2) ∧ w'.cell? ⟨w.heap.size + 1 + 1, 4, none⟩ = some (.slice s.A s.uses.length s.c)) (first | with_reducible exact HQ.out.cells)
     (first
       | (go_at_call 37; with_reducible refine (refOfA HU.out HQ.out hl HS.out).mono ?_; rintro e v1 ⟨rfl, hb⟩; have HQ := Lib.hid (HQ.out.below hb); clear hb)
       | (go_at_call 21; with_reducible refine (refAskedA HQ1.out HQ.out).mono ?_; rintro e v1 ⟨rfl, hb⟩; have HQ := Lib.hid (HQ.out.below hb); clear hb))
    all_goals
      go_wp2_with fail
      go_meet
      exact ⟨by rw [HEx.out.2], HQ.out⟩
  case rest =>
  obtain ⟨rfl, hq⟩ := hcut
  have HQd := Lib.hid hq
  clear hq HQ
  go_wp2_with fail
  have HQ := Lib.hid HQd.out.drew
  go_cut [9, 10] (fun v u W => v = .int .i64 x ∧ u = .int .i64 y ∧ AQ a b s w W)
  case first =>
    have hxe : U2.a1 - Q2 = y := HEy.out.1
    have hwe : IntKind.i64.wrap (U2.a1 - Q2) = y := by rw [hxe]; exact HEy.out.2
    go_region_held3 (fun w' => w'.cell? ⟨w.heap.size, 0, none⟩ = some (.string a.id) ∧ w'.cell? ⟨w.heap.size, 1, none⟩ = some (.int .i64 a.prio) ∧ w'.cell? ⟨w.heap.size, 2, none⟩ = some (.bool a.crit) ∧ w'.cell? ⟨w.heap.size, 3, none⟩ = some (.int .i64 a.q0) ∧ w'.cell? ⟨w.heap.size, 4, none⟩ = some (.int .i64 a.q1) ∧ w'.cell? ⟨w.heap.size, 5, none⟩ = some (.int .i64 a.q2) ∧ w'.cell? ⟨w.heap.size, 6, none⟩ = some (.int .i64 a.l0) ∧ w'.cell? ⟨w.heap.size, 7, none⟩ = some (.int .i64 a.l1) ∧ w'.cell? ⟨w.heap.size, 8, none⟩ = some (.int .i64 a.l2) ∧ w'.cell? ⟨w.heap.size, 9, none⟩ = some (.string a.image) ∧ w'.cell? ⟨w.heap.size, 10, none⟩ = some (.int .i64 a.size) ∧ w'.cell? ⟨w.heap.size + 1, 0, none⟩ = some (.string b.id) ∧ w'.cell? ⟨w.heap.size + 1, 1, none⟩ = some (.int .i64 b.prio) ∧ w'.cell? ⟨w.heap.size + 1, 2, none⟩ = some (.bool b.crit) ∧ w'.cell? ⟨w.heap.size + 1, 3, none⟩ = some (.int .i64 b.q0) ∧ w'.cell? ⟨w.heap.size + 1, 4, none⟩ = some (.int .i64 b.q1) ∧ w'.cell? ⟨w.heap.size + 1, 5, none⟩ = some (.int .i64 b.q2) ∧ w'.cell? ⟨w.heap.size + 1, 6, none⟩ = some (.int .i64 b.l0) ∧ w'.cell? ⟨w.heap.size + 1, 7, none⟩ = some (.int .i64 b.l1) ∧ w'.cell? ⟨w.heap.size + 1, 8, none⟩ = some (.int .i64 b.l2) ∧ w'.cell? ⟨w.heap.size + 1, 9, none⟩ = some (.string b.image) ∧ w'.cell? ⟨w.heap.size + 1, 10, none⟩ = some (.int .i64 b.size) ∧ w'.cell? ⟨w.heap.size + 1 + 1, 0, none⟩ = some (.int .i64 s.time) ∧ w'.cell? ⟨w.heap.size + 1 + 1, 1, none⟩ = some (.int .i64 s.v0) ∧ w'.cell? ⟨w.heap.size + 1 + 1, 2, none⟩ = some (.int .i64 s.v1) ∧ w'.cell? ⟨w.heap.size + 1 + 1, 3, none⟩ = some (.int .i64 s.v2) ∧ w'.cell? ⟨w.heap.size + 1 + 1, 4, none⟩ = some (.slice s.A s.uses.length s.c)) (first | with_reducible exact HQ.out.cells)
     (first
       | (go_at_call 37; with_reducible refine (refOfA HU2.out HQ.out hl HS.out).mono ?_; rintro e v1 ⟨rfl, hb⟩; have HQ := Lib.hid (HQ.out.below hb); clear hb)
       | (go_at_call 21; with_reducible refine (refAskedA HQ2.out HQ.out).mono ?_; rintro e v1 ⟨rfl, hb⟩; have HQ := Lib.hid (HQ.out.below hb); clear hb))
    all_goals
      go_wp2_with fail
      go_meet
      exact ⟨rfl, by rw [HEy.out.2], HQ.out⟩
  case rest =>
  obtain ⟨rfl, rfl, hq⟩ := hcut
  have HQ := Lib.hid hq
  clear hq HQd
  have ca := HQ.out.pa.cell
  have cb := HQ.out.pb.cell
  cases d1 : decide (0 < x)
  · cases d2 : decide (0 < y)
    · cases d3 : (a.prio != b.prio)
      · cases d4 : (x != y)
        · have HW := Lib.hid (HV.out.trans (show _ = blt a.id b.id by rw [d1, d2, d3, d4]; rfl))
          clear HV HEx HEy HS HU HU2 HQ1 HQ2
          go_wp2_with fail
          go_ret
          exact ⟨ret_bool HW.out.symm, HQ.out.bel⟩
        · have HW := Lib.hid (HV.out.trans (show _ = decide (y < x) by rw [d1, d2, d3, d4]; rfl))
          clear HV HEx HEy HS HU HU2 HQ1 HQ2
          go_wp2_with fail
          go_ret
          exact ⟨ret_bool HW.out.symm, HQ.out.bel⟩
      · have HW := Lib.hid (HV.out.trans (show _ = decide (a.prio < b.prio) by rw [d1, d2, d3]; rfl))
        clear HV HEx HEy HS HU HU2 HQ1 HQ2
        go_wp2_with fail
        go_ret
        exact ⟨ret_bool HW.out.symm, HQ.out.bel⟩
    · have HW := Lib.hid (HV.out.trans (show _ = false by rw [d1, d2]; rfl))
      clear HV HEx HEy HS HU HU2 HQ1 HQ2
      go_wp2_with fail
      go_ret
      exact ⟨ret_bool HW.out.symm, HQ.out.bel⟩
  · cases d2 : decide (0 < y)
    · have HW := Lib.hid (HV.out.trans (show _ = true by rw [d1, d2]; rfl))
      clear HV HEx HEy HS HU HU2 HQ1 HQ2
      go_wp2_with fail
      go_ret
      exact ⟨ret_bool HW.out.symm, HQ.out.bel⟩
    · cases d3 : (a.prio != b.prio)
      · cases d4 : (x != y)
        · have HW := Lib.hid (HV.out.trans (show _ = blt a.id b.id by rw [d1, d2, d3, d4]; rfl))
          clear HV HEx HEy HS HU HU2 HQ1 HQ2
          go_wp2_with fail
          go_ret
          exact ⟨ret_bool HW.out.symm, HQ.out.bel⟩
        · have HW := Lib.hid (HV.out.trans (show _ = decide (y < x) by rw [d1, d2, d3, d4]; rfl))
          clear HV HEx HEy HS HU HU2 HQ1 HQ2
          go_wp2_with fail
          go_ret
          exact ⟨ret_bool HW.out.symm, HQ.out.bel⟩
      · have HW := Lib.hid (HV.out.trans (show _ = decide (a.prio < b.prio) by rw [d1, d2, d3]; rfl))
        clear HV HEx HEy HS HU HU2 HQ1 HQ2
        go_wp2_with fail
        go_ret
        exact ⟨ret_bool HW.out.symm, HQ.out.bel⟩
set_option maxRecDepth 100000 in
set_option maxHeartbeats 8000000 in
theorem refAhead_2 {a b : Pd} {s : Sp} (w : World) (hr : Rds w encU s.A s.uses) (hl : s.uses.length ≤ 100000) (hs : SortedU s.uses) (ha : ExOk 2 a s.uses) (hb : ExOk 2 b s.uses) :
    Calls Try.prog 22 #[.int .i64 2, .agg a.cells, .agg b.cells, .agg s.cells] w fun e w' => e = .returned (.bool (aheadB 2 a b s.uses)) ∧ Below w.heap.size w w' := by
  have mixed : Try.prog.follows Departure.mixedOrders = true := by kernel_rfl
  have HQd := Lib.hid (AQ.new a b s w hr)
  have HS := Lib.hid hs
  obtain ⟨U, HU⟩ : ∃ U, Hid (usOf s.uses a.id = U) := ⟨_, Lib.hid rfl⟩
  obtain ⟨U2, HU2⟩ : ∃ U, Hid (usOf s.uses b.id = U) := ⟨_, Lib.hid rfl⟩
  obtain ⟨Q1, HQ1⟩ : ∃ q, Hid (asked a 2 = q) := ⟨_, Lib.hid rfl⟩
  obtain ⟨Q2, HQ2⟩ : ∃ q, Hid (asked b 2 = q) := ⟨_, Lib.hid rfl⟩
  obtain ⟨x, hx⟩ : ∃ x, excess 2 a s.uses = x := ⟨_, rfl⟩
  obtain ⟨y, hy⟩ : ∃ y, excess 2 b s.uses = y := ⟨_, rfl⟩
  have HEx : Hid (U.a2 - Q1 = x ∧ IntKind.i64.wrap x = x) := ⟨by rw [← hx]; unfold excess; rw [HU.out, HQ1.out]; rfl, by rw [IntKind.wrap_i64]; have := ha.lo; have := ha.hi; omega⟩
  have HEy : Hid (U2.a2 - Q2 = y ∧ IntKind.i64.wrap y = y) := ⟨by rw [← hy]; unfold excess; rw [HU2.out, HQ2.out]; rfl, by rw [IntKind.wrap_i64]; have := hb.lo; have := hb.hi; omega⟩
  have HV := Lib.hid (aheadB_val hx hy)
  clear hr hs hx hy ha hb
  go_enter Try.func22, Try.ntmps22
  go_wp2_with fail
  generalize (((w.alloc (.cells a.cells 24)).alloc (.cells b.cells 24)).alloc (.cells s.cells 36)) = W0 at *
  have HQ := Lib.hid HQd.out.drew
  go_cut [9] (fun v W => v = .int .i64 x ∧ AQ a b s w W)
  case first =>
    have hxe : U.a2 - Q1 = x := HEx.out.1
    have hwe : IntKind.i64.wrap (U.a2 - Q1) = x := by rw [hxe]; exact HEx.out.2
    go_region_held3 (fun w' => w'.cell? ⟨w.heap.size, 0, none⟩ = some (.string a.id) ∧ w'.cell? ⟨w.heap.size, 1, none⟩ = some (.int .i64 a.prio) ∧ w'.cell? ⟨w.heap.size, 2, none⟩ = some (.bool a.crit) ∧ w'.cell? ⟨w.heap.size, 3, none⟩ = some (.int .i64 a.q0) ∧ w'.cell? ⟨w.heap.size, 4, none⟩ = some (.int .i64 a.q1) ∧ w'.cell? ⟨w.heap.size, 5, none⟩ = some (.int .i64 a.q2) ∧ w'.cell? ⟨w.heap.size, 6, none⟩ = some (.int .i64 a.l0) ∧ w'.cell? ⟨w.heap.size, 7, none⟩ = some (.int .i64 a.l1) ∧ w'.cell? ⟨w.heap.size, 8, none⟩ = some (.int .i64 a.l2) ∧ w'.cell? ⟨w.heap.size, 9, none⟩ = some (.string a.image) ∧ w'.cell? ⟨w.heap.size, 10, none⟩ = some (.int .i64 a.size) ∧ w'.cell? ⟨w.heap.size + 1, 0, none⟩ = some (.string b.id) ∧ w'.cell? ⟨w.heap.size + 1, 1, none⟩ = some (.int .i64 b.prio) ∧ w'.cell? ⟨w.heap.size + 1, 2, none⟩ = some (.bool b.crit) ∧ w'.cell? ⟨w.heap.size + 1, 3, none⟩ = some (.int .i64 b.q0) ∧ w'.cell? ⟨w.heap.size + 1, 4, none⟩ = some (.int .i64 b.q1) ∧ w'.cell? ⟨w.heap.size + 1, 5, none⟩ = some (.int .i64 b.q2) ∧ w'.cell? ⟨w.heap.size + 1, 6, none⟩ = some (.int .i64 b.l0) ∧ w'.cell? ⟨w.heap.size + 1, 7, none⟩ = some (.int .i64 b.l1) ∧ w'.cell? ⟨w.heap.size + 1, 8, none⟩ = some (.int .i64 b.l2) ∧ w'.cell? ⟨w.heap.size + 1, 9, none⟩ = some (.string b.image) ∧ w'.cell? ⟨w.heap.size + 1, 10, none⟩ = some (.int .i64 b.size) ∧ w'.cell? ⟨w.heap.size + 1 + 1, 0, none⟩ = some (.int .i64 s.time) ∧ w'.cell? ⟨w.heap.size + 1 + 1, 1, none⟩ = some (.int .i64 s.v0) ∧ w'.cell? ⟨w.heap.size + 1 + 1, 2, none⟩ = some (.int .i64 s.v1) ∧ w'.cell? ⟨w.heap.size + 1 + 1, 3, none⟩ = some (.int .i64 s.v2) ∧ w'.cell? ⟨w.heap.size + 1 + 1, 4, none⟩ = some (.slice s.A s.uses.length s.c)) (first | with_reducible exact HQ.out.cells)
     (first
       | (go_at_call 37; with_reducible refine (refOfA HU.out HQ.out hl HS.out).mono ?_; rintro e v1 ⟨rfl, hb⟩; have HQ := Lib.hid (HQ.out.below hb); clear hb)
       | (go_at_call 21; with_reducible refine (refAskedA HQ1.out HQ.out).mono ?_; rintro e v1 ⟨rfl, hb⟩; have HQ := Lib.hid (HQ.out.below hb); clear hb))
    all_goals
      go_wp2_with fail
      go_meet
      exact ⟨by rw [HEx.out.2], HQ.out⟩
  case rest =>
  obtain ⟨rfl, hq⟩ := hcut
  have HQd := Lib.hid hq
  clear hq HQ
  go_wp2_with fail
  have HQ := Lib.hid HQd.out.drew
  go_cut [9, 10] (fun v u W => v = .int .i64 x ∧ u = .int .i64 y ∧ AQ a b s w W)
  case first =>
    have hxe : U2.a2 - Q2 = y := HEy.out.1
    have hwe : IntKind.i64.wrap (U2.a2 - Q2) = y := by rw [hxe]; exact HEy.out.2
    go_region_held3 (fun w' => w'.cell? ⟨w.heap.size, 0, none⟩ = some (.string a.id) ∧ w'.cell? ⟨w.heap.size, 1, none⟩ = some (.int .i64 a.prio) ∧ w'.cell? ⟨w.heap.size, 2, none⟩ = some (.bool a.crit) ∧ w'.cell? ⟨w.heap.size, 3, none⟩ = some (.int .i64 a.q0) ∧ w'.cell? ⟨w.heap.size, 4, none⟩ = some (.int .i64 a.q1) ∧ w'.cell? ⟨w.heap.size, 5, none⟩ = some (.int .i64 a.q2) ∧ w'.cell? ⟨w.heap.size, 6, none⟩ = some (.int .i64 a.l0) ∧ w'.cell? ⟨w.heap.size, 7, none⟩ = some (.int .i64 a.l1) ∧ w'.cell? ⟨w.heap.size, 8, none⟩ = some (.int .i64 a.l2) ∧ w'.cell? ⟨w.heap.size, 9, none⟩ = some (.string a.image) ∧ w'.cell? ⟨w.heap.size, 10, none⟩ = some (.int .i64 a.size) ∧ w'.cell? ⟨w.heap.size + 1, 0, none⟩ = some (.string b.id) ∧ w'.cell? ⟨w.heap.size + 1, 1, none⟩ = some (.int .i64 b.prio) ∧ w'.cell? ⟨w.heap.size + 1, 2, none⟩ = some (.bool b.crit) ∧ w'.cell? ⟨w.heap.size + 1, 3, none⟩ = some (.int .i64 b.q0) ∧ w'.cell? ⟨w.heap.size + 1, 4, none⟩ = some (.int .i64 b.q1) ∧ w'.cell? ⟨w.heap.size + 1, 5, none⟩ = some (.int .i64 b.q2) ∧ w'.cell? ⟨w.heap.size + 1, 6, none⟩ = some (.int .i64 b.l0) ∧ w'.cell? ⟨w.heap.size + 1, 7, none⟩ = some (.int .i64 b.l1) ∧ w'.cell? ⟨w.heap.size + 1, 8, none⟩ = some (.int .i64 b.l2) ∧ w'.cell? ⟨w.heap.size + 1, 9, none⟩ = some (.string b.image) ∧ w'.cell? ⟨w.heap.size + 1, 10, none⟩ = some (.int .i64 b.size) ∧ w'.cell? ⟨w.heap.size + 1 + 1, 0, none⟩ = some (.int .i64 s.time) ∧ w'.cell? ⟨w.heap.size + 1 + 1, 1, none⟩ = some (.int .i64 s.v0) ∧ w'.cell? ⟨w.heap.size + 1 + 1, 2, none⟩ = some (.int .i64 s.v1) ∧ w'.cell? ⟨w.heap.size + 1 + 1, 3, none⟩ = some (.int .i64 s.v2) ∧ w'.cell? ⟨w.heap.size + 1 + 1, 4, none⟩ = some (.slice s.A s.uses.length s.c)) (first | with_reducible exact HQ.out.cells)
     (first
       | (go_at_call 37; with_reducible refine (refOfA HU2.out HQ.out hl HS.out).mono ?_; rintro e v1 ⟨rfl, hb⟩; have HQ := Lib.hid (HQ.out.below hb); clear hb)
       | (go_at_call 21; with_reducible refine (refAskedA HQ2.out HQ.out).mono ?_; rintro e v1 ⟨rfl, hb⟩; have HQ := Lib.hid (HQ.out.below hb); clear hb))
    all_goals
      go_wp2_with fail
      go_meet
      exact ⟨rfl, by rw [HEy.out.2], HQ.out⟩
  case rest =>
  obtain ⟨rfl, rfl, hq⟩ := hcut
  have HQ := Lib.hid hq
  clear hq HQd
  have ca := HQ.out.pa.cell
  have cb := HQ.out.pb.cell
  cases d1 : decide (0 < x)
  · cases d2 : decide (0 < y)
    · cases d3 : (a.prio != b.prio)
      · cases d4 : (x != y)
        · have HW := Lib.hid (HV.out.trans (show _ = blt a.id b.id by rw [d1, d2, d3, d4]; rfl))
          clear HV HEx HEy HS HU HU2 HQ1 HQ2
          go_wp2_with fail
          go_ret
          exact ⟨ret_bool HW.out.symm, HQ.out.bel⟩
        · have HW := Lib.hid (HV.out.trans (show _ = decide (y < x) by rw [d1, d2, d3, d4]; rfl))
          clear HV HEx HEy HS HU HU2 HQ1 HQ2
          go_wp2_with fail
          go_ret
          exact ⟨ret_bool HW.out.symm, HQ.out.bel⟩
      · have HW := Lib.hid (HV.out.trans (show _ = decide (a.prio < b.prio) by rw [d1, d2, d3]; rfl))
        clear HV HEx HEy HS HU HU2 HQ1 HQ2
        go_wp2_with fail
        go_ret
        exact ⟨ret_bool HW.out.symm, HQ.out.bel⟩
    · have HW := Lib.hid (HV.out.trans (show _ = false by rw [d1, d2]; rfl))
      clear HV HEx HEy HS HU HU2 HQ1 HQ2
      go_wp2_with fail
      go_ret
      exact ⟨ret_bool HW.out.symm, HQ.out.bel⟩
  · cases d2 : decide (0 < y)
    · have HW := Lib.hid (HV.out.trans (show _ = true by rw [d1, d2]; rfl))
      clear HV HEx HEy HS HU HU2 HQ1 HQ2
      go_wp2_with fail
      go_ret
      exact ⟨ret_bool HW.out.symm, HQ.out.bel⟩
    · cases d3 : (a.prio != b.prio)
      · cases d4 : (x != y)
        · have HW := Lib.hid (HV.out.trans (show _ = blt a.id b.id by rw [d1, d2, d3, d4]; rfl))
          clear HV HEx HEy HS HU HU2 HQ1 HQ2
          go_wp2_with fail
          go_ret
          exact ⟨ret_bool HW.out.symm, HQ.out.bel⟩
        · have HW := Lib.hid (HV.out.trans (show _ = decide (y < x) by rw [d1, d2, d3, d4]; rfl))
          clear HV HEx HEy HS HU HU2 HQ1 HQ2
          go_wp2_with fail
          go_ret
          exact ⟨ret_bool HW.out.symm, HQ.out.bel⟩
      · have HW := Lib.hid (HV.out.trans (show _ = decide (a.prio < b.prio) by rw [d1, d2, d3]; rfl))
        clear HV HEx HEy HS HU HU2 HQ1 HQ2
        go_wp2_with fail
        go_ret
        exact ⟨ret_bool HW.out.symm, HQ.out.bel⟩
theorem refAheadV_any {k : Int} (hk : k = 0 ∨ k = 1 ∨ k = 2) {a b : Pd} {s : Sp} {v : Bool} (hv : aheadB k a b s.uses = v) (w : World) (hr : Rds w encU s.A s.uses) (hl : s.uses.length ≤ 100000) (hs : SortedU s.uses) (ha : ExOk k a s.uses) (hb : ExOk k b s.uses) :
    Calls Try.prog 22 #[.int .i64 k, .agg a.cells, .agg b.cells, .agg s.cells] w fun e w' => e = .returned (.bool v) ∧ Below w.heap.size w w' := by
  subst hv
  rcases hk with rfl | rfl | rfl
  · exact refAhead_0 w hr hl hs ha hb
  · exact refAhead_1 w hr hl hs ha hb
  · exact refAhead_2 w hr hl hs ha hb
end Go.Proofs.Ytlnpmdchhmbblaa
