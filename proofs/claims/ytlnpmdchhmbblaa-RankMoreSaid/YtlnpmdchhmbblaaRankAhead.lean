/- rank.keyOf, rank.Ahead. -/
import Derived.Test.YtlnpmdchhmbblaaRankKey
import Derived.Deep.RegionHeld3
import Derived.Deep.Cut
namespace Go.Proofs.Ytlnpmdchhmbblaa
open Go.RowKit

def amt (k : Int) (x : Us) : Int := if k = 0 then x.a0 else if k = 1 then x.a1 else x.a2
def excess (k : Int) (p : Pd) (l : List Us) : Int := amt k (usOf l p.id) - asked p k
def keyD (k : Int) (p : Pd) (l : List Us) : Ky := ⟨if 0 < excess k p l then 0 else 1, p.prio, excess k p l, p.id⟩
theorem ofV_any {s : Sp} {id : ByteArray} {x : Us} (hx : usOf s.uses id = x) (w : World) (hr : Rds w encU s.A s.uses) (hl : s.uses.length ≤ 100000) (hs : SortedU s.uses) :
    Calls Try.prog 44 #[.agg s.cells, .string id] w fun e w' => e = .returned (.agg #[.int .i64 x.a0, .int .i64 x.a1, .int .i64 x.a2]) ∧ Below w.heap.size w w' := by subst hx; exact of_any s id w hr hl hs
theorem askedV_any {p : Pd} {k q : Int} (hq : asked p k = q) (w : World) :
    Calls Try.prog 20 #[.agg p.cells, .int .i64 k] w fun e w' => e = .returned (.int .i64 q) ∧ Below w.heap.size w w' := by subst hq; exact asked_any p k w
theorem szK : (Try.prog.info? 66).map (·.size) = some 4 := by kernel_rfl
theorem ky_one (x : Ky) : x.cells.all (·.oneCell') = true := by simp [Value.oneCell']
/-- what keyOf's region leaves alone -/
structure KQ (p : Pd) (s : Sp) (w W : World) : Prop where
  rds0 : Rds w encU s.A s.uses
  pod : Blk W w.heap.size 24 p.cells
  smp : Blk W (w.heap.size + 1) 36 s.cells
  res : Blk W (w.heap.size + 1 + 1) 66 #[.int .i64 0, .int .i64 0, .int .i64 0, .string ⟨#[]⟩]
  bel : Below w.heap.size w W
theorem KQ.rds {p : Pd} {s : Sp} {w W : World} (h : KQ p s w W) : Rds W encU s.A s.uses := h.rds0.below h.bel
theorem KQ.far {p : Pd} {s : Sp} {w W : World} (h : KQ p s w W) {a : Addr} (ha : w.heap.size + 1 + 1 < a.block) (u : Value) : KQ p s w (W.setCell a u) :=
  ⟨h.rds0, h.pod.far (by omega) u, h.smp.far (by omega) u, h.res.far (by omega) u, h.bel.setCell (by omega) u⟩
theorem KQ.lt {p : Pd} {s : Sp} {w W : World} (h : KQ p s w W) : w.heap.size + 1 + 1 < W.heap.size := h.res.lt
theorem KQ.drew {p : Pd} {s : Sp} {w W : World} (h : KQ p s w W) : KQ p s w W.drew := ⟨h.rds0, h.pod.drew, h.smp.drew, h.res.drew, h.bel.drew⟩
theorem KQ.alloc {p : Pd} {s : Sp} {w W : World} (h : KQ p s w W) (o : Obj) : KQ p s w (W.alloc o) := ⟨h.rds0, h.pod.alloc o, h.smp.alloc o, h.res.alloc o, h.bel.alloc h.bel.size o⟩
theorem KQ.below {p : Pd} {s : Sp} {w W W' : World} (h : KQ p s w W) (hb : Below W.heap.size W W') : KQ p s w W' := ⟨h.rds0, h.pod.belowAll hb, h.smp.belowAll hb, h.res.belowAll hb, h.bel.trans (hb.mono h.bel.size)⟩
theorem KQ.cells {p : Pd} {s : Sp} {w W : World} (h : KQ p s w W) : W.cell? ⟨w.heap.size, 0, none⟩ = some (.string p.id) ∧ W.cell? ⟨w.heap.size, 1, none⟩ = some (.int .i64 p.prio) ∧ W.cell? ⟨w.heap.size, 2, none⟩ = some (.bool p.crit) ∧ W.cell? ⟨w.heap.size, 3, none⟩ = some (.int .i64 p.q0) ∧ W.cell? ⟨w.heap.size, 4, none⟩ = some (.int .i64 p.q1) ∧ W.cell? ⟨w.heap.size, 5, none⟩ = some (.int .i64 p.q2) ∧ W.cell? ⟨w.heap.size, 6, none⟩ = some (.int .i64 p.l0) ∧ W.cell? ⟨w.heap.size, 7, none⟩ = some (.int .i64 p.l1) ∧ W.cell? ⟨w.heap.size, 8, none⟩ = some (.int .i64 p.l2) ∧ W.cell? ⟨w.heap.size, 9, none⟩ = some (.string p.image) ∧ W.cell? ⟨w.heap.size, 10, none⟩ = some (.int .i64 p.size) ∧ W.cell? ⟨w.heap.size + 1, 0, none⟩ = some (.int .i64 s.time) ∧ W.cell? ⟨w.heap.size + 1, 1, none⟩ = some (.int .i64 s.v0) ∧ W.cell? ⟨w.heap.size + 1, 2, none⟩ = some (.int .i64 s.v1) ∧ W.cell? ⟨w.heap.size + 1, 3, none⟩ = some (.int .i64 s.v2) ∧ W.cell? ⟨w.heap.size + 1, 4, none⟩ = some (.slice s.A s.uses.length s.c) :=
  ⟨h.pod.cell 0, h.pod.cell 1, h.pod.cell 2, h.pod.cell 3, h.pod.cell 4, h.pod.cell 5, h.pod.cell 6, h.pod.cell 7, h.pod.cell 8, h.pod.cell 9, h.pod.cell 10, h.smp.cell 0, h.smp.cell 1, h.smp.cell 2, h.smp.cell 3, h.smp.cell 4⟩
theorem KQ.new (p : Pd) (s : Sp) (w : World) (hr : Rds w encU s.A s.uses) : KQ p s w (((w.alloc (.cells p.cells 24)).alloc (.cells s.cells 36)).alloc (.cells #[.int .i64 0, .int .i64 0, .int .i64 0, .string ⟨#[]⟩] 66)) := by
  have hb0 : Below w.heap.size w (((w.alloc (.cells p.cells 24)).alloc (.cells s.cells 36)).alloc (.cells #[.int .i64 0, .int .i64 0, .int .i64 0, .string ⟨#[]⟩] 66)) := (((Below.refl _ _).alloc (Nat.le_refl _) _).alloc (by simp) _).alloc (by simp; omega) _
  have hz1 : (w.alloc (.cells p.cells 24)).heap.size = w.heap.size + 1 := by simp
  have hz2 : ((w.alloc (.cells p.cells 24)).alloc (.cells s.cells 36)).heap.size = w.heap.size + 1 + 1 := by simp
  have hbs := Blk.new (w.alloc (.cells p.cells 24)) 36 s.cells
  have hbr := Blk.new ((w.alloc (.cells p.cells 24)).alloc (.cells s.cells 36)) 66 #[.int .i64 0, .int .i64 0, .int .i64 0, .string ⟨#[]⟩]
  rw [hz1] at hbs
  rw [hz2] at hbr
  exact ⟨hr, ((Blk.new w 24 p.cells).alloc _).alloc _, hbs.alloc _, hbr, hb0⟩
theorem ofK {p : Pd} {s : Sp} {w W : World} {id : ByteArray} {x : Us} (hx : usOf s.uses id = x) (h : KQ p s w W) (hl : s.uses.length ≤ 100000) (hs : SortedU s.uses) :
    Calls Try.prog 44 #[.agg s.cells, .string id] W fun e w' => e = .returned (.agg #[.int .i64 x.a0, .int .i64 x.a1, .int .i64 x.a2]) ∧ Below W.heap.size W w' := ofV_any hx W h.rds hl hs
theorem askedK {p : Pd} {s : Sp} {w W : World} {k q : Int} (hq : asked p k = q) (_ : KQ p s w W) :
    Calls Try.prog 20 #[.agg p.cells, .int .i64 k] W fun e w' => e = .returned (.int .i64 q) ∧ Below W.heap.size W w' := askedV_any hq W
set_option maxRecDepth 100000 in
set_option maxHeartbeats 8000000 in
theorem keyOf_any (k : Int) (hk : k = 0 ∨ k = 1 ∨ k = 2) (p : Pd) (s : Sp) (w : World) (hr : Rds w encU s.A s.uses) (hl : s.uses.length ≤ 100000) (hs : SortedU s.uses) (he1 : -9223372036854775808 ≤ excess k p s.uses) (he2 : excess k p s.uses ≤ 9223372036854775807) :
    Calls Try.prog 34 #[.int .i64 k, .agg p.cells, .agg s.cells] w fun e w' => e = .returned (.agg (keyD k p s.uses).cells) ∧ Below w.heap.size w w' := by
  have mixed : Try.prog.follows Departure.mixedOrders = true := by kernel_rfl
  have HQ := Lib.hid (KQ.new p s w hr)
  have HS := Lib.hid hs
  clear hr hs
  obtain ⟨x, HX⟩ : ∃ x, Hid (usOf s.uses p.id = x) := ⟨_, Lib.hid rfl⟩
  obtain ⟨q, HA⟩ : ∃ q, Hid (asked p k = q) := ⟨_, Lib.hid rfl⟩
  obtain ⟨e, hE⟩ : ∃ e, excess k p s.uses = e := ⟨_, rfl⟩
  have HK : Hid (keyD k p s.uses = ⟨if 0 < e then 0 else 1, p.prio, e, p.id⟩) := by show _ = _; unfold keyD; rw [hE]
  have HE : Hid (amt k x - q = e) := by show _ = _; rw [← hE]; unfold excess; rw [HX.out, HA.out]
  rw [hE] at he1 he2
  clear hE
  have HKV : Hid ((0 < e → keyD k p s.uses = ⟨0, p.prio, e, p.id⟩) ∧ (¬ 0 < e → keyD k p s.uses = ⟨1, p.prio, e, p.id⟩)) := ⟨fun h => by rw [HK.out, if_pos h], fun h => by rw [HK.out, if_neg h]⟩
  clear HK
  have hw2 : IntKind.i64.wrap e = e := by rw [IntKind.wrap_i64]; omega
  rcases hk with rfl | rfl | rfl
  · have hxe : x.a0 - q = e := HE.out
    have hw1 : IntKind.i64.wrap (x.a0 - q) = e := by rw [hxe]; exact hw2
    go_enter Try.func34, Try.ntmps34
    go_wp2_with fail
    have HQd := HQ
    clear HQ
    generalize (((w.alloc (.cells p.cells 24)).alloc (.cells s.cells 36)).alloc (.cells #[.int .i64 0, .int .i64 0, .int .i64 0, .string ⟨#[]⟩] 66)) = W0 at *
    have HQ := Lib.hid HQd.out.drew
    go_cut [7] (fun v W => ∃ n, v = .pointer (some ⟨n, 0, none⟩) ∧ w.heap.size + 1 + 1 < n ∧ Blk W n 66 (⟨1, p.prio, e, p.id⟩ : Ky).cells ∧ Blk W (w.heap.size + 1 + 1) 66 #[.int .i64 0, .int .i64 0, .int .i64 0, .string ⟨#[]⟩] ∧ Below w.heap.size w W)
    case first =>
      go_region_held3 (fun w' => w'.cell? ⟨w.heap.size, 0, none⟩ = some (.string p.id) ∧ w'.cell? ⟨w.heap.size, 1, none⟩ = some (.int .i64 p.prio) ∧ w'.cell? ⟨w.heap.size, 2, none⟩ = some (.bool p.crit) ∧ w'.cell? ⟨w.heap.size, 3, none⟩ = some (.int .i64 p.q0) ∧ w'.cell? ⟨w.heap.size, 4, none⟩ = some (.int .i64 p.q1) ∧ w'.cell? ⟨w.heap.size, 5, none⟩ = some (.int .i64 p.q2) ∧ w'.cell? ⟨w.heap.size, 6, none⟩ = some (.int .i64 p.l0) ∧ w'.cell? ⟨w.heap.size, 7, none⟩ = some (.int .i64 p.l1) ∧ w'.cell? ⟨w.heap.size, 8, none⟩ = some (.int .i64 p.l2) ∧ w'.cell? ⟨w.heap.size, 9, none⟩ = some (.string p.image) ∧ w'.cell? ⟨w.heap.size, 10, none⟩ = some (.int .i64 p.size) ∧ w'.cell? ⟨w.heap.size + 1, 0, none⟩ = some (.int .i64 s.time) ∧ w'.cell? ⟨w.heap.size + 1, 1, none⟩ = some (.int .i64 s.v0) ∧ w'.cell? ⟨w.heap.size + 1, 2, none⟩ = some (.int .i64 s.v1) ∧ w'.cell? ⟨w.heap.size + 1, 3, none⟩ = some (.int .i64 s.v2) ∧ w'.cell? ⟨w.heap.size + 1, 4, none⟩ = some (.slice s.A s.uses.length s.c)) (first | with_reducible exact HQ.out.cells | with_reducible exact (HQ.out.alloc _).cells | with_reducible exact (HQd.out.alloc _).drew.cells | with_reducible exact ((((HQ.out.far NN.out _).far NN.out _).far NN.out _).far NN.out _).cells)
       (first
          | (go_at_call 44; have nb := NB.out; with_reducible refine (ofK HX.out HQ.out hl HS.out).mono ?_; rintro e v1 ⟨rfl, hb⟩; have HQ := Lib.hid (HQ.out.below hb); have NB := Lib.hid (nb.belowAll hb); have nc0 := NB.out.cell 0; have nc1 := NB.out.cell 1; have nc2 := NB.out.cell 2; have nc3 := NB.out.cell 3; simp only [List.getElem?_toArray, List.getElem?_cons_zero, List.getElem?_cons_succ] at nc0 nc1 nc2 nc3; have nf0 := NB.out.frozen 0; have nf1 := NB.out.frozen 1; have nf2 := NB.out.frozen 2; have nf3 := NB.out.frozen 3; clear hb nb)
          | (go_at_call 20; have nb := NB.out; with_reducible refine (askedK HA.out HQ.out).mono ?_; rintro e v1 ⟨rfl, hb⟩; have HQ := Lib.hid (HQ.out.below hb); have NB := Lib.hid (nb.belowAll hb); have nc0 := NB.out.cell 0; have nc1 := NB.out.cell 1; have nc2 := NB.out.cell 2; have nc3 := NB.out.cell 3; simp only [List.getElem?_toArray, List.getElem?_cons_zero, List.getElem?_cons_succ] at nc0 nc1 nc2 nc3; have nf0 := NB.out.frozen 0; have nf1 := NB.out.frozen 1; have nf2 := NB.out.frozen 2; have nf3 := NB.out.frozen 3; clear hb nb)
          | (go_at_call 44; with_reducible refine (ofK HX.out HQ.out hl HS.out).mono ?_; rintro e v1 ⟨rfl, hb⟩; have HQ := Lib.hid (HQ.out.below hb); clear hb)
          | (go_at_call 20; with_reducible refine (askedK HA.out HQ.out).mono ?_; rintro e v1 ⟨rfl, hb⟩; have HQ := Lib.hid (HQ.out.below hb); clear hb)
          | (go_at_call 44; with_reducible refine (ofK HX.out ((HQ.out.alloc _)) hl HS.out).mono ?_; rintro e v1 ⟨rfl, hb⟩; have NN := Lib.hid HQ.out.lt; have NB := Lib.hid ((Blk.new _ 66 #[.int .i64 0, .int .i64 0, .int .i64 0, .string ⟨#[]⟩]).belowAll hb); have HQ := Lib.hid (((HQ.out.alloc _)).below hb); have nc0 := NB.out.cell 0; have nc1 := NB.out.cell 1; have nc2 := NB.out.cell 2; have nc3 := NB.out.cell 3; simp only [List.getElem?_toArray, List.getElem?_cons_zero, List.getElem?_cons_succ] at nc0 nc1 nc2 nc3; have nf0 := NB.out.frozen 0; have nf1 := NB.out.frozen 1; have nf2 := NB.out.frozen 2; have nf3 := NB.out.frozen 3; clear hb)
          | (go_at_call 20; with_reducible refine (askedK HA.out ((HQ.out.alloc _))).mono ?_; rintro e v1 ⟨rfl, hb⟩; have NN := Lib.hid HQ.out.lt; have NB := Lib.hid ((Blk.new _ 66 #[.int .i64 0, .int .i64 0, .int .i64 0, .string ⟨#[]⟩]).belowAll hb); have HQ := Lib.hid (((HQ.out.alloc _)).below hb); have nc0 := NB.out.cell 0; have nc1 := NB.out.cell 1; have nc2 := NB.out.cell 2; have nc3 := NB.out.cell 3; simp only [List.getElem?_toArray, List.getElem?_cons_zero, List.getElem?_cons_succ] at nc0 nc1 nc2 nc3; have nf0 := NB.out.frozen 0; have nf1 := NB.out.frozen 1; have nf2 := NB.out.frozen 2; have nf3 := NB.out.frozen 3; clear hb)
          | (go_at_call 44; with_reducible refine (ofK HX.out ((HQd.out.alloc _).drew) hl HS.out).mono ?_; rintro e v1 ⟨rfl, hb⟩; have NN := Lib.hid HQ.out.lt; have NB := Lib.hid ((Blk.new _ 66 #[.int .i64 0, .int .i64 0, .int .i64 0, .string ⟨#[]⟩]).drew.belowAll hb); have HQ := Lib.hid (((HQd.out.alloc _).drew).below hb); have nc0 := NB.out.cell 0; have nc1 := NB.out.cell 1; have nc2 := NB.out.cell 2; have nc3 := NB.out.cell 3; simp only [List.getElem?_toArray, List.getElem?_cons_zero, List.getElem?_cons_succ] at nc0 nc1 nc2 nc3; have nf0 := NB.out.frozen 0; have nf1 := NB.out.frozen 1; have nf2 := NB.out.frozen 2; have nf3 := NB.out.frozen 3; clear hb)
          | (go_at_call 20; with_reducible refine (askedK HA.out ((HQd.out.alloc _).drew)).mono ?_; rintro e v1 ⟨rfl, hb⟩; have NN := Lib.hid HQ.out.lt; have NB := Lib.hid ((Blk.new _ 66 #[.int .i64 0, .int .i64 0, .int .i64 0, .string ⟨#[]⟩]).drew.belowAll hb); have HQ := Lib.hid (((HQd.out.alloc _).drew).below hb); have nc0 := NB.out.cell 0; have nc1 := NB.out.cell 1; have nc2 := NB.out.cell 2; have nc3 := NB.out.cell 3; simp only [List.getElem?_toArray, List.getElem?_cons_zero, List.getElem?_cons_succ] at nc0 nc1 nc2 nc3; have nf0 := NB.out.frozen 0; have nf1 := NB.out.frozen 1; have nf2 := NB.out.frozen 2; have nf3 := NB.out.frozen 3; clear hb))
      all_goals
        go_wp2_with fail
        go_meet
        first
          | exact ⟨_, rfl, HQ.out.lt, Blk.new _ _ _, (HQ.out.alloc _).res, (HQ.out.alloc _).bel⟩
          | exact ⟨_, rfl, NN.out, by simpa using (((NB.out.set_ 0 _).set_ 1 _).set_ 2 _).set_ 3 _, ((((HQ.out.far NN.out _).far NN.out _).far NN.out _).far NN.out _).res, ((((HQ.out.far NN.out _).far NN.out _).far NN.out _).far NN.out _).bel⟩
    case rest =>
      obtain ⟨n, rfl, hn, hB, hR, hBel⟩ := hcut
      clear HQ HQd hw1 hxe HE HX HA HS
      have HR := Lib.hid (And.intro hn (And.intro hB (And.intro hR hBel)))
      have kc0 := hB.cell 0
      have kc1 := hB.cell 1
      have kc2 := hB.cell 2
      have kc3 := hB.cell 3
      have kf0 := hB.frozen 0
      simp only [List.getElem?_toArray, List.getElem?_cons_zero, List.getElem?_cons_succ] at kc0 kc1 kc2 kc3
      clear hn hB hR hBel
      by_cases h0 : 0 < e
      · have d0 : decide (0 < e) = true := decide_eq_true h0
        have HV := Lib.hid (HKV.out.1 h0)
        clear HKV h0
        go_wp2_with (refine wl_store_blk rfl 66 (.tmp 6) (.tmp 27) rfl (w.heap.size + 1 + 1) 66 #[.int .i64 0, .int .i64 0, .int .i64 0, .string ⟨#[]⟩] (⟨0, p.prio, e, p.id⟩ : Ky).cells rfl rfl (HR.out.2.2.1.far (p := ⟨n, 0, none⟩) (by have := HR.out.1; show ¬ _ = n; omega) _) rfl szK (ky_one _) ?_; intro w5 hR5 hg5 hs5)
        have hl5 := hR5.cell
        exact bodyPost_ret (v := .agg (⟨0, p.prio, e, p.id⟩ : Ky).cells) (by simp [results, Try.results34, go_sem, hl5]) rfl ⟨by rw [HV.out], (HR.out.2.2.2.setCell (by have := HR.out.1; show _ ≤ n; omega) _).grown hg5 (HR.out.2.2.2.setCell (by have := HR.out.1; show _ ≤ n; omega) _).size (by intro k hk; cases hk; omega)⟩
      · have d0 : decide (0 < e) = false := decide_eq_false h0
        have HV := Lib.hid (HKV.out.2 (by omega))
        clear HKV h0
        go_wp2_with (refine wl_store_blk rfl 66 (.tmp 6) (.tmp 27) rfl (w.heap.size + 1 + 1) 66 #[.int .i64 0, .int .i64 0, .int .i64 0, .string ⟨#[]⟩] (⟨1, p.prio, e, p.id⟩ : Ky).cells rfl rfl HR.out.2.2.1 rfl szK (ky_one _) ?_; intro w5 hR5 hg5 hs5)
        have hl5 := hR5.cell
        exact bodyPost_ret (v := .agg (⟨1, p.prio, e, p.id⟩ : Ky).cells) (by simp [results, Try.results34, go_sem, hl5]) rfl ⟨by rw [HV.out], HR.out.2.2.2.grown hg5 HR.out.2.2.2.size (by intro k hk; cases hk; omega)⟩
  · have hxe : x.a1 - q = e := HE.out
    have hw1 : IntKind.i64.wrap (x.a1 - q) = e := by rw [hxe]; exact hw2
    go_enter Try.func34, Try.ntmps34
    go_wp2_with fail
    have HQd := HQ
    clear HQ
    generalize (((w.alloc (.cells p.cells 24)).alloc (.cells s.cells 36)).alloc (.cells #[.int .i64 0, .int .i64 0, .int .i64 0, .string ⟨#[]⟩] 66)) = W0 at *
    have HQ := Lib.hid HQd.out.drew
    go_cut [7] (fun v W => ∃ n, v = .pointer (some ⟨n, 0, none⟩) ∧ w.heap.size + 1 + 1 < n ∧ Blk W n 66 (⟨1, p.prio, e, p.id⟩ : Ky).cells ∧ Blk W (w.heap.size + 1 + 1) 66 #[.int .i64 0, .int .i64 0, .int .i64 0, .string ⟨#[]⟩] ∧ Below w.heap.size w W)
    case first =>
      go_region_held3 (fun w' => w'.cell? ⟨w.heap.size, 0, none⟩ = some (.string p.id) ∧ w'.cell? ⟨w.heap.size, 1, none⟩ = some (.int .i64 p.prio) ∧ w'.cell? ⟨w.heap.size, 2, none⟩ = some (.bool p.crit) ∧ w'.cell? ⟨w.heap.size, 3, none⟩ = some (.int .i64 p.q0) ∧ w'.cell? ⟨w.heap.size, 4, none⟩ = some (.int .i64 p.q1) ∧ w'.cell? ⟨w.heap.size, 5, none⟩ = some (.int .i64 p.q2) ∧ w'.cell? ⟨w.heap.size, 6, none⟩ = some (.int .i64 p.l0) ∧ w'.cell? ⟨w.heap.size, 7, none⟩ = some (.int .i64 p.l1) ∧ w'.cell? ⟨w.heap.size, 8, none⟩ = some (.int .i64 p.l2) ∧ w'.cell? ⟨w.heap.size, 9, none⟩ = some (.string p.image) ∧ w'.cell? ⟨w.heap.size, 10, none⟩ = some (.int .i64 p.size) ∧ w'.cell? ⟨w.heap.size + 1, 0, none⟩ = some (.int .i64 s.time) ∧ w'.cell? ⟨w.heap.size + 1, 1, none⟩ = some (.int .i64 s.v0) ∧ w'.cell? ⟨w.heap.size + 1, 2, none⟩ = some (.int .i64 s.v1) ∧ w'.cell? ⟨w.heap.size + 1, 3, none⟩ = some (.int .i64 s.v2) ∧ w'.cell? ⟨w.heap.size + 1, 4, none⟩ = some (.slice s.A s.uses.length s.c)) (first | with_reducible exact HQ.out.cells | with_reducible exact (HQ.out.alloc _).cells | with_reducible exact (HQd.out.alloc _).drew.cells | with_reducible exact ((((HQ.out.far NN.out _).far NN.out _).far NN.out _).far NN.out _).cells)
       (first
          | (go_at_call 44; have nb := NB.out; with_reducible refine (ofK HX.out HQ.out hl HS.out).mono ?_; rintro e v1 ⟨rfl, hb⟩; have HQ := Lib.hid (HQ.out.below hb); have NB := Lib.hid (nb.belowAll hb); have nc0 := NB.out.cell 0; have nc1 := NB.out.cell 1; have nc2 := NB.out.cell 2; have nc3 := NB.out.cell 3; simp only [List.getElem?_toArray, List.getElem?_cons_zero, List.getElem?_cons_succ] at nc0 nc1 nc2 nc3; have nf0 := NB.out.frozen 0; have nf1 := NB.out.frozen 1; have nf2 := NB.out.frozen 2; have nf3 := NB.out.frozen 3; clear hb nb)
          | (go_at_call 20; have nb := NB.out; with_reducible refine (askedK HA.out HQ.out).mono ?_; rintro e v1 ⟨rfl, hb⟩; have HQ := Lib.hid (HQ.out.below hb); have NB := Lib.hid (nb.belowAll hb); have nc0 := NB.out.cell 0; have nc1 := NB.out.cell 1; have nc2 := NB.out.cell 2; have nc3 := NB.out.cell 3; simp only [List.getElem?_toArray, List.getElem?_cons_zero, List.getElem?_cons_succ] at nc0 nc1 nc2 nc3; have nf0 := NB.out.frozen 0; have nf1 := NB.out.frozen 1; have nf2 := NB.out.frozen 2; have nf3 := NB.out.frozen 3; clear hb nb)
          | (go_at_call 44; with_reducible refine (ofK HX.out HQ.out hl HS.out).mono ?_; rintro e v1 ⟨rfl, hb⟩; have HQ := Lib.hid (HQ.out.below hb); clear hb)
          | (go_at_call 20; with_reducible refine (askedK HA.out HQ.out).mono ?_; rintro e v1 ⟨rfl, hb⟩; have HQ := Lib.hid (HQ.out.below hb); clear hb)
          | (go_at_call 44; with_reducible refine (ofK HX.out ((HQ.out.alloc _)) hl HS.out).mono ?_; rintro e v1 ⟨rfl, hb⟩; have NN := Lib.hid HQ.out.lt; have NB := Lib.hid ((Blk.new _ 66 #[.int .i64 0, .int .i64 0, .int .i64 0, .string ⟨#[]⟩]).belowAll hb); have HQ := Lib.hid (((HQ.out.alloc _)).below hb); have nc0 := NB.out.cell 0; have nc1 := NB.out.cell 1; have nc2 := NB.out.cell 2; have nc3 := NB.out.cell 3; simp only [List.getElem?_toArray, List.getElem?_cons_zero, List.getElem?_cons_succ] at nc0 nc1 nc2 nc3; have nf0 := NB.out.frozen 0; have nf1 := NB.out.frozen 1; have nf2 := NB.out.frozen 2; have nf3 := NB.out.frozen 3; clear hb)
          | (go_at_call 20; with_reducible refine (askedK HA.out ((HQ.out.alloc _))).mono ?_; rintro e v1 ⟨rfl, hb⟩; have NN := Lib.hid HQ.out.lt; have NB := Lib.hid ((Blk.new _ 66 #[.int .i64 0, .int .i64 0, .int .i64 0, .string ⟨#[]⟩]).belowAll hb); have HQ := Lib.hid (((HQ.out.alloc _)).below hb); have nc0 := NB.out.cell 0; have nc1 := NB.out.cell 1; have nc2 := NB.out.cell 2; have nc3 := NB.out.cell 3; simp only [List.getElem?_toArray, List.getElem?_cons_zero, List.getElem?_cons_succ] at nc0 nc1 nc2 nc3; have nf0 := NB.out.frozen 0; have nf1 := NB.out.frozen 1; have nf2 := NB.out.frozen 2; have nf3 := NB.out.frozen 3; clear hb)
          | (go_at_call 44; with_reducible refine (ofK HX.out ((HQd.out.alloc _).drew) hl HS.out).mono ?_; rintro e v1 ⟨rfl, hb⟩; have NN := Lib.hid HQ.out.lt; have NB := Lib.hid ((Blk.new _ 66 #[.int .i64 0, .int .i64 0, .int .i64 0, .string ⟨#[]⟩]).drew.belowAll hb); have HQ := Lib.hid (((HQd.out.alloc _).drew).below hb); have nc0 := NB.out.cell 0; have nc1 := NB.out.cell 1; have nc2 := NB.out.cell 2; have nc3 := NB.out.cell 3; simp only [List.getElem?_toArray, List.getElem?_cons_zero, List.getElem?_cons_succ] at nc0 nc1 nc2 nc3; have nf0 := NB.out.frozen 0; have nf1 := NB.out.frozen 1; have nf2 := NB.out.frozen 2; have nf3 := NB.out.frozen 3; clear hb)
          | (go_at_call 20; with_reducible refine (askedK HA.out ((HQd.out.alloc _).drew)).mono ?_; rintro e v1 ⟨rfl, hb⟩; have NN := Lib.hid HQ.out.lt; have NB := Lib.hid ((Blk.new _ 66 #[.int .i64 0, .int .i64 0, .int .i64 0, .string ⟨#[]⟩]).drew.belowAll hb); have HQ := Lib.hid (((HQd.out.alloc _).drew).below hb); have nc0 := NB.out.cell 0; have nc1 := NB.out.cell 1; have nc2 := NB.out.cell 2; have nc3 := NB.out.cell 3; simp only [List.getElem?_toArray, List.getElem?_cons_zero, List.getElem?_cons_succ] at nc0 nc1 nc2 nc3; have nf0 := NB.out.frozen 0; have nf1 := NB.out.frozen 1; have nf2 := NB.out.frozen 2; have nf3 := NB.out.frozen 3; clear hb))
      all_goals
        go_wp2_with fail
        go_meet
        first
          | exact ⟨_, rfl, HQ.out.lt, Blk.new _ _ _, (HQ.out.alloc _).res, (HQ.out.alloc _).bel⟩
          | exact ⟨_, rfl, NN.out, by simpa using (((NB.out.set_ 0 _).set_ 1 _).set_ 2 _).set_ 3 _, ((((HQ.out.far NN.out _).far NN.out _).far NN.out _).far NN.out _).res, ((((HQ.out.far NN.out _).far NN.out _).far NN.out _).far NN.out _).bel⟩
    case rest =>
      obtain ⟨n, rfl, hn, hB, hR, hBel⟩ := hcut
      clear HQ HQd hw1 hxe HE HX HA HS
      have HR := Lib.hid (And.intro hn (And.intro hB (And.intro hR hBel)))
      have kc0 := hB.cell 0
      have kc1 := hB.cell 1
      have kc2 := hB.cell 2
      have kc3 := hB.cell 3
      have kf0 := hB.frozen 0
      simp only [List.getElem?_toArray, List.getElem?_cons_zero, List.getElem?_cons_succ] at kc0 kc1 kc2 kc3
      clear hn hB hR hBel
      by_cases h0 : 0 < e
      · have d0 : decide (0 < e) = true := decide_eq_true h0
        have HV := Lib.hid (HKV.out.1 h0)
        clear HKV h0
        go_wp2_with (refine wl_store_blk rfl 66 (.tmp 6) (.tmp 27) rfl (w.heap.size + 1 + 1) 66 #[.int .i64 0, .int .i64 0, .int .i64 0, .string ⟨#[]⟩] (⟨0, p.prio, e, p.id⟩ : Ky).cells rfl rfl (HR.out.2.2.1.far (p := ⟨n, 0, none⟩) (by have := HR.out.1; show ¬ _ = n; omega) _) rfl szK (ky_one _) ?_; intro w5 hR5 hg5 hs5)
        have hl5 := hR5.cell
        exact bodyPost_ret (v := .agg (⟨0, p.prio, e, p.id⟩ : Ky).cells) (by simp [results, Try.results34, go_sem, hl5]) rfl ⟨by rw [HV.out], (HR.out.2.2.2.setCell (by have := HR.out.1; show _ ≤ n; omega) _).grown hg5 (HR.out.2.2.2.setCell (by have := HR.out.1; show _ ≤ n; omega) _).size (by intro k hk; cases hk; omega)⟩
      · have d0 : decide (0 < e) = false := decide_eq_false h0
        have HV := Lib.hid (HKV.out.2 (by omega))
        clear HKV h0
        go_wp2_with (refine wl_store_blk rfl 66 (.tmp 6) (.tmp 27) rfl (w.heap.size + 1 + 1) 66 #[.int .i64 0, .int .i64 0, .int .i64 0, .string ⟨#[]⟩] (⟨1, p.prio, e, p.id⟩ : Ky).cells rfl rfl HR.out.2.2.1 rfl szK (ky_one _) ?_; intro w5 hR5 hg5 hs5)
        have hl5 := hR5.cell
        exact bodyPost_ret (v := .agg (⟨1, p.prio, e, p.id⟩ : Ky).cells) (by simp [results, Try.results34, go_sem, hl5]) rfl ⟨by rw [HV.out], HR.out.2.2.2.grown hg5 HR.out.2.2.2.size (by intro k hk; cases hk; omega)⟩
  · have hxe : x.a2 - q = e := HE.out
    have hw1 : IntKind.i64.wrap (x.a2 - q) = e := by rw [hxe]; exact hw2
    go_enter Try.func34, Try.ntmps34
    go_wp2_with fail
    have HQd := HQ
    clear HQ
    generalize (((w.alloc (.cells p.cells 24)).alloc (.cells s.cells 36)).alloc (.cells #[.int .i64 0, .int .i64 0, .int .i64 0, .string ⟨#[]⟩] 66)) = W0 at *
    have HQ := Lib.hid HQd.out.drew
    go_cut [7] (fun v W => ∃ n, v = .pointer (some ⟨n, 0, none⟩) ∧ w.heap.size + 1 + 1 < n ∧ Blk W n 66 (⟨1, p.prio, e, p.id⟩ : Ky).cells ∧ Blk W (w.heap.size + 1 + 1) 66 #[.int .i64 0, .int .i64 0, .int .i64 0, .string ⟨#[]⟩] ∧ Below w.heap.size w W)
    case first =>
      go_region_held3 (fun w' => w'.cell? ⟨w.heap.size, 0, none⟩ = some (.string p.id) ∧ w'.cell? ⟨w.heap.size, 1, none⟩ = some (.int .i64 p.prio) ∧ w'.cell? ⟨w.heap.size, 2, none⟩ = some (.bool p.crit) ∧ w'.cell? ⟨w.heap.size, 3, none⟩ = some (.int .i64 p.q0) ∧ w'.cell? ⟨w.heap.size, 4, none⟩ = some (.int .i64 p.q1) ∧ w'.cell? ⟨w.heap.size, 5, none⟩ = some (.int .i64 p.q2) ∧ w'.cell? ⟨w.heap.size, 6, none⟩ = some (.int .i64 p.l0) ∧ w'.cell? ⟨w.heap.size, 7, none⟩ = some (.int .i64 p.l1) ∧ w'.cell? ⟨w.heap.size, 8, none⟩ = some (.int .i64 p.l2) ∧ w'.cell? ⟨w.heap.size, 9, none⟩ = some (.string p.image) ∧ w'.cell? ⟨w.heap.size, 10, none⟩ = some (.int .i64 p.size) ∧ w'.cell? ⟨w.heap.size + 1, 0, none⟩ = some (.int .i64 s.time) ∧ w'.cell? ⟨w.heap.size + 1, 1, none⟩ = some (.int .i64 s.v0) ∧ w'.cell? ⟨w.heap.size + 1, 2, none⟩ = some (.int .i64 s.v1) ∧ w'.cell? ⟨w.heap.size + 1, 3, none⟩ = some (.int .i64 s.v2) ∧ w'.cell? ⟨w.heap.size + 1, 4, none⟩ = some (.slice s.A s.uses.length s.c)) (first | with_reducible exact HQ.out.cells | with_reducible exact (HQ.out.alloc _).cells | with_reducible exact (HQd.out.alloc _).drew.cells | with_reducible exact ((((HQ.out.far NN.out _).far NN.out _).far NN.out _).far NN.out _).cells)
       (first
          | (go_at_call 44; have nb := NB.out; with_reducible refine (ofK HX.out HQ.out hl HS.out).mono ?_; rintro e v1 ⟨rfl, hb⟩; have HQ := Lib.hid (HQ.out.below hb); have NB := Lib.hid (nb.belowAll hb); have nc0 := NB.out.cell 0; have nc1 := NB.out.cell 1; have nc2 := NB.out.cell 2; have nc3 := NB.out.cell 3; simp only [List.getElem?_toArray, List.getElem?_cons_zero, List.getElem?_cons_succ] at nc0 nc1 nc2 nc3; have nf0 := NB.out.frozen 0; have nf1 := NB.out.frozen 1; have nf2 := NB.out.frozen 2; have nf3 := NB.out.frozen 3; clear hb nb)
          | (go_at_call 20; have nb := NB.out; with_reducible refine (askedK HA.out HQ.out).mono ?_; rintro e v1 ⟨rfl, hb⟩; have HQ := Lib.hid (HQ.out.below hb); have NB := Lib.hid (nb.belowAll hb); have nc0 := NB.out.cell 0; have nc1 := NB.out.cell 1; have nc2 := NB.out.cell 2; have nc3 := NB.out.cell 3; simp only [List.getElem?_toArray, List.getElem?_cons_zero, List.getElem?_cons_succ] at nc0 nc1 nc2 nc3; have nf0 := NB.out.frozen 0; have nf1 := NB.out.frozen 1; have nf2 := NB.out.frozen 2; have nf3 := NB.out.frozen 3; clear hb nb)
          | (go_at_call 44; with_reducible refine (ofK HX.out HQ.out hl HS.out).mono ?_; rintro e v1 ⟨rfl, hb⟩; have HQ := Lib.hid (HQ.out.below hb); clear hb)
          | (go_at_call 20; with_reducible refine (askedK HA.out HQ.out).mono ?_; rintro e v1 ⟨rfl, hb⟩; have HQ := Lib.hid (HQ.out.below hb); clear hb)
          | (go_at_call 44; with_reducible refine (ofK HX.out ((HQ.out.alloc _)) hl HS.out).mono ?_; rintro e v1 ⟨rfl, hb⟩; have NN := Lib.hid HQ.out.lt; have NB := Lib.hid ((Blk.new _ 66 #[.int .i64 0, .int .i64 0, .int .i64 0, .string ⟨#[]⟩]).belowAll hb); have HQ := Lib.hid (((HQ.out.alloc _)).below hb); have nc0 := NB.out.cell 0; have nc1 := NB.out.cell 1; have nc2 := NB.out.cell 2; have nc3 := NB.out.cell 3; simp only [List.getElem?_toArray, List.getElem?_cons_zero, List.getElem?_cons_succ] at nc0 nc1 nc2 nc3; have nf0 := NB.out.frozen 0; have nf1 := NB.out.frozen 1; have nf2 := NB.out.frozen 2; have nf3 := NB.out.frozen 3; clear hb)
          | (go_at_call 20; with_reducible refine (askedK HA.out ((HQ.out.alloc _))).mono ?_; rintro e v1 ⟨rfl, hb⟩; have NN := Lib.hid HQ.out.lt; have NB := Lib.hid ((Blk.new _ 66 #[.int .i64 0, .int .i64 0, .int .i64 0, .string ⟨#[]⟩]).belowAll hb); have HQ := Lib.hid (((HQ.out.alloc _)).below hb); have nc0 := NB.out.cell 0; have nc1 := NB.out.cell 1; have nc2 := NB.out.cell 2; have nc3 := NB.out.cell 3; simp only [List.getElem?_toArray, List.getElem?_cons_zero, List.getElem?_cons_succ] at nc0 nc1 nc2 nc3; have nf0 := NB.out.frozen 0; have nf1 := NB.out.frozen 1; have nf2 := NB.out.frozen 2; have nf3 := NB.out.frozen 3; clear hb)
          | (go_at_call 44; with_reducible refine (ofK HX.out ((HQd.out.alloc _).drew) hl HS.out).mono ?_; rintro e v1 ⟨rfl, hb⟩; have NN := Lib.hid HQ.out.lt; have NB := Lib.hid ((Blk.new _ 66 #[.int .i64 0, .int .i64 0, .int .i64 0, .string ⟨#[]⟩]).drew.belowAll hb); have HQ := Lib.hid (((HQd.out.alloc _).drew).below hb); have nc0 := NB.out.cell 0; have nc1 := NB.out.cell 1; have nc2 := NB.out.cell 2; have nc3 := NB.out.cell 3; simp only [List.getElem?_toArray, List.getElem?_cons_zero, List.getElem?_cons_succ] at nc0 nc1 nc2 nc3; have nf0 := NB.out.frozen 0; have nf1 := NB.out.frozen 1; have nf2 := NB.out.frozen 2; have nf3 := NB.out.frozen 3; clear hb)
          | (go_at_call 20; with_reducible refine (askedK HA.out ((HQd.out.alloc _).drew)).mono ?_; rintro e v1 ⟨rfl, hb⟩; have NN := Lib.hid HQ.out.lt; have NB := Lib.hid ((Blk.new _ 66 #[.int .i64 0, .int .i64 0, .int .i64 0, .string ⟨#[]⟩]).drew.belowAll hb); have HQ := Lib.hid (((HQd.out.alloc _).drew).below hb); have nc0 := NB.out.cell 0; have nc1 := NB.out.cell 1; have nc2 := NB.out.cell 2; have nc3 := NB.out.cell 3; simp only [List.getElem?_toArray, List.getElem?_cons_zero, List.getElem?_cons_succ] at nc0 nc1 nc2 nc3; have nf0 := NB.out.frozen 0; have nf1 := NB.out.frozen 1; have nf2 := NB.out.frozen 2; have nf3 := NB.out.frozen 3; clear hb))
      all_goals
        go_wp2_with fail
        go_meet
        first
          | exact ⟨_, rfl, HQ.out.lt, Blk.new _ _ _, (HQ.out.alloc _).res, (HQ.out.alloc _).bel⟩
          | exact ⟨_, rfl, NN.out, by simpa using (((NB.out.set_ 0 _).set_ 1 _).set_ 2 _).set_ 3 _, ((((HQ.out.far NN.out _).far NN.out _).far NN.out _).far NN.out _).res, ((((HQ.out.far NN.out _).far NN.out _).far NN.out _).far NN.out _).bel⟩
    case rest =>
      obtain ⟨n, rfl, hn, hB, hR, hBel⟩ := hcut
      clear HQ HQd hw1 hxe HE HX HA HS
      have HR := Lib.hid (And.intro hn (And.intro hB (And.intro hR hBel)))
      have kc0 := hB.cell 0
      have kc1 := hB.cell 1
      have kc2 := hB.cell 2
      have kc3 := hB.cell 3
      have kf0 := hB.frozen 0
      simp only [List.getElem?_toArray, List.getElem?_cons_zero, List.getElem?_cons_succ] at kc0 kc1 kc2 kc3
      clear hn hB hR hBel
      by_cases h0 : 0 < e
      · have d0 : decide (0 < e) = true := decide_eq_true h0
        have HV := Lib.hid (HKV.out.1 h0)
        clear HKV h0
        go_wp2_with (refine wl_store_blk rfl 66 (.tmp 6) (.tmp 27) rfl (w.heap.size + 1 + 1) 66 #[.int .i64 0, .int .i64 0, .int .i64 0, .string ⟨#[]⟩] (⟨0, p.prio, e, p.id⟩ : Ky).cells rfl rfl (HR.out.2.2.1.far (p := ⟨n, 0, none⟩) (by have := HR.out.1; show ¬ _ = n; omega) _) rfl szK (ky_one _) ?_; intro w5 hR5 hg5 hs5)
        have hl5 := hR5.cell
        exact bodyPost_ret (v := .agg (⟨0, p.prio, e, p.id⟩ : Ky).cells) (by simp [results, Try.results34, go_sem, hl5]) rfl ⟨by rw [HV.out], (HR.out.2.2.2.setCell (by have := HR.out.1; show _ ≤ n; omega) _).grown hg5 (HR.out.2.2.2.setCell (by have := HR.out.1; show _ ≤ n; omega) _).size (by intro k hk; cases hk; omega)⟩
      · have d0 : decide (0 < e) = false := decide_eq_false h0
        have HV := Lib.hid (HKV.out.2 (by omega))
        clear HKV h0
        go_wp2_with (refine wl_store_blk rfl 66 (.tmp 6) (.tmp 27) rfl (w.heap.size + 1 + 1) 66 #[.int .i64 0, .int .i64 0, .int .i64 0, .string ⟨#[]⟩] (⟨1, p.prio, e, p.id⟩ : Ky).cells rfl rfl HR.out.2.2.1 rfl szK (ky_one _) ?_; intro w5 hR5 hg5 hs5)
        have hl5 := hR5.cell
        exact bodyPost_ret (v := .agg (⟨1, p.prio, e, p.id⟩ : Ky).cells) (by simp [results, Try.results34, go_sem, hl5]) rfl ⟨by rw [HV.out], HR.out.2.2.2.grown hg5 HR.out.2.2.2.size (by intro k hk; cases hk; omega)⟩
end Go.Proofs.Ytlnpmdchhmbblaa
