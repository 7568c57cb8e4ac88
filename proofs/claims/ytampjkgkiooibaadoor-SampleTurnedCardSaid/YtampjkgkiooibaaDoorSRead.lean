/- sample.Read: what is read of a raw sample, or that it is none. -/
import Derived.Test.YtampjkgkiooibaaDoorSAlone
import Derived.Test.YtampjkgkiooibaaDoorSSort
import Derived.Test.YtampjkgkiooibaaDoorSWhole
import Derived.Test.YtampjkgkiooibaaDoorReadD17
import Derived.BigQuiet
import Derived.Deep.QuietTactic
namespace Go.Proofs.YtampjkgkiooibaaDoor
open Go.RowKit

theorem szS : (Tryd.prog.info? 32).map (·.size) = some 5 := by kernel_rfl
theorem k3_ok {a b c : Nat} (h : K3 a b c) : (okN (kindN a) && (okN (kindN b) && okN (kindN c))) = true := by
  obtain ⟨h0, h1, h2⟩ := h
  unfold okN
  simp [h0, h1, h2]
theorem k3_of {a b c : Nat} (h : (okN (kindN a) && (okN (kindN b) && okN (kindN c))) = true) : K3 a b c := by
  unfold okN at h
  simp only [Bool.and_eq_true, decide_eq_true_eq] at h
  exact ⟨h.1, h.2.1, h.2.2⟩
theorem whole_yes {f0 f1 f2 : Nat} {x y z : Int} (h : f0 < 18446744073709551616 ∧ f1 < 18446744073709551616 ∧ f2 < 18446744073709551616) (hx : readN f0 = x ∧ readN f1 = y ∧ readN f2 = z) (hk : (okN (kindN f0) && (okN (kindN f1) && okN (kindN f2))) = true) (w : World) :
    Calls Tryd.prog 28 #[.agg #[.float .f64 f0, .float .f64 f1, .float .f64 f2]] w fun e w' => e = .returned (.tuple #[.agg #[.int .i64 x, .int .i64 y, .int .i64 z], .bool true]) ∧ Below w.heap.size w w' := by
  have := sampleWhole_any h.1 h.2.1 h.2.2 hx.1 hx.2.1 hx.2.2 rfl rfl rfl w
  rwa [hk] at this
theorem whole_no {f0 f1 f2 : Nat} {x y z : Int} (h : f0 < 18446744073709551616 ∧ f1 < 18446744073709551616 ∧ f2 < 18446744073709551616) (hx : readN f0 = x ∧ readN f1 = y ∧ readN f2 = z) (hk : (okN (kindN f0) && (okN (kindN f1) && okN (kindN f2))) = false) (w : World) :
    Calls Tryd.prog 28 #[.agg #[.float .f64 f0, .float .f64 f1, .float .f64 f2]] w fun e w' => e = .returned (.tuple #[.agg #[.int .i64 0, .int .i64 0, .int .i64 0], .bool false]) ∧ Below w.heap.size w w' := by
  have := sampleWhole_any h.1 h.2.1 h.2.2 hx.1 hx.2.1 hx.2.2 rfl rfl rfl w
  rwa [hk] at this
theorem sr_no {v : Bool} {p : Prop} (hv : v = true ↔ p) (h : ¬ p) : v = false := by
  cases v
  · rfl
  · exact absurd (hv.1 rfl) h
theorem al_of {l : List Ug} {k : Nat} (h : OkTo l k) : AlTo l k := fun i hi h2 => ⟨(h i hi h2).n, (h i hi h2).d⟩
theorem ok_of {l : List Ug} (hk : ∀ i (hi : i < l.length), i < l.length → K3 l[i].f0 l[i].f1 l[i].f2) (h : AlTo l l.length) : OkTo l l.length := fun i hi h2 => ⟨hk i hi h2, (h i hi h2).2, (h i hi h2).1⟩
theorem insU_perm (l : List Us) (u : Us) : (insU l u).Perm (u :: l) := by
  induction l with
  | nil => exact List.Perm.refl _
  | cons x l ih =>
    unfold insU
    split
    · exact List.Perm.refl _
    · exact (ih.cons x).trans (List.Perm.swap u x l)
theorem readUses_perm (gs : List Ug) : (readUses gs).Perm (gs.map toUs) := by
  have h : ∀ (gs : List Ug) (acc : List Us), (gs.foldl (fun acc g => insU acc (toUs g)) acc).Perm (acc ++ gs.map toUs) := by
    intro gs
    induction gs with
    | nil => intro acc; simp
    | cons g gs ih =>
      intro acc
      refine (ih _).trans ?_
      rw [List.map_cons]
      refine ((insU_perm acc (toUs g)).append_right _).trans ?_
      exact (List.perm_middle (a := toUs g) (l₁ := acc) (l₂ := gs.map toUs)).symm
  exact h gs []
theorem distinct_of {l : List Ug} (h : OkTo l l.length) : distinctG l := by
  unfold distinctG
  rw [List.pairwise_iff_getElem]
  intro i j hi hj hij
  exact (h j hj hj).d i hij
theorem sort_read {r : Rw} (h : RightR r) {L : List Us} (hp : L.Perm (r.uses.map toUs)) (hs : L.Pairwise fun x y => blt y.id x.id = false) : L = readUses r.uses := by
  have hd := distinct_of h.ok
  refine List.Perm.eq_of_pairwise (le := fun x y => blt y.id x.id = false) (fun a b ha hb h1 h2 => ?_) hs ((readUses_sorted hd).imp fun {x y} h => ?_) (hp.trans (readUses_perm r.uses).symm)
  · have e := blt_total h2 h1
    have ha' := hp.mem_iff.1 ha
    have hb' : b ∈ r.uses.map toUs := (readUses_perm r.uses).mem_iff.1 hb
    obtain ⟨g, hg, rfl⟩ := List.mem_map.1 ha'
    obtain ⟨g', hg', rfl⟩ := List.mem_map.1 hb'
    obtain ⟨i, hi, rfl⟩ := List.getElem_of_mem hg
    obtain ⟨j, hj, rfl⟩ := List.getElem_of_mem hg'
    have e2 : r.uses[i].id = r.uses[j].id := e
    rcases Nat.lt_trichotomy i j with h3 | h3 | h3
    · exact absurd e2 ((h.ok j hj hj).d i h3)
    · subst h3; rfl
    · exact absurd e2.symm ((h.ok i hi hi).d j h3)
  · cases h9 : blt y.id x.id
    · rfl
    · exact absurd (blt_trans h h9) (by rw [blt_irrefl]; simp)
theorem RQ.fresh {r : Rw} {w W W' : World} (h : RQ r w W) {o : Obj} (hg : (W.alloc o).grownBy W' (some W.heap.size)) : RQ r w W' :=
  ⟨h.rds0, (h.box.alloc o).grown hg (by have := h.box.lt; intro e; injection e with e; omega), (h.bel.alloc h.bel.size o).grown hg (h.bel.alloc h.bel.size o).size (by intro k hk; cases hk; exact h.bel.size)⟩
theorem DQ.fresh {r : Rw} {w W W' : World} (h : DQ r w W) {o : Obj} (hg : (W.alloc o).grownBy W' (some W.heap.size)) : DQ r w W' :=
  ⟨h.rq.fresh hg, (h.res.alloc o).grown hg (by have := h.res.lt; intro e; injection e with e; omega)⟩
/-- the sample in the making -/
structure LS (r : Rw) (n : Nat) (V0 V1 V2 : Int) (m : List Us) (A' : Option Addr) (c' : Nat) (w W : World) : Prop where
  d : DQ r w W
  smp : Blk W n 32 #[.int .i64 r.time, .int .i64 V0, .int .i64 V1, .int .i64 V2, .slice A' m.length c']
  own : Own W w.heap.size 51 encU (.slice A' m.length c') m
  hn : w.heap.size + 1 < n
/-- behind an append, ahead of its store -/
structure PS (r : Rw) (n : Nat) (V0 V1 V2 : Int) (v : Value) (w W : World) : Prop where
  d : DQ r w W
  smp : Blk W n 32 #[.int .i64 r.time, .int .i64 V0, .int .i64 V1, .int .i64 V2, v]
  hn : w.heap.size + 1 < n
section
variable {r : Rw} {n : Nat} {V0 V1 V2 : Int} {m : List Us} {A' : Option Addr} {c' : Nat} {w W W' : World}
theorem LS.start {n : Nat} (h : DQ r w W') (hm : Blk W' n 32 #[.int .i64 r.time, .int .i64 V0, .int .i64 V1, .int .i64 V2, .slice none 0 0]) (hn : w.heap.size + 1 < n) : LS r n V0 V1 V2 [] none 0 w W' := ⟨h, hm, Own.nil_ _ _ _ _, hn⟩
theorem LS.below (h : LS r n V0 V1 V2 m A' c' w W) (hb : Below W.heap.size W W') : LS r n V0 V1 V2 m A' c' w W' := ⟨h.d.below hb, h.smp.belowAll hb, h.own.below hb (Nat.le_refl _), h.hn⟩
theorem LS.fresh (h : LS r n V0 V1 V2 m A' c' w W) {o : Obj} (hg : (W.alloc o).grownBy W' (some W.heap.size)) : LS r n V0 V1 V2 m A' c' w W' :=
  ⟨h.d.fresh hg, (h.smp.alloc o).grown hg (by have := h.smp.lt; intro e; injection e with e; omega), (h.own.alloc o).grown hg (.inr fun e => by have := (h.own.block_lt _ e).2; omega), h.hn⟩
theorem LS.push (h : LS r n V0 V1 V2 m A' c' w W) {o : Obj} (hg : (W.alloc o).grownBy W' (Value.slice A' m.length c').ownBlock) (hb : Below w.heap.size w W') : PS r n V0 V1 V2 (.slice A' m.length c') w W' :=
  ⟨⟨⟨h.d.rq.rds0, (h.d.rq.box.alloc o).grown hg ((h.own.alloc o).ne_blk (h.d.rq.box.alloc o) (by decide)), hb⟩, (h.d.res.alloc o).grown hg ((h.own.alloc o).ne_blk (h.d.res.alloc o) (by decide))⟩, (h.smp.alloc o).grown hg ((h.own.alloc o).ne_blk (h.smp.alloc o) (by decide)), h.hn⟩
theorem LS.sorted (h : LS r n V0 V1 V2 m A' c' w W) (hg : W.grownBy W' (Value.slice A' m.length c').ownBlock) : PS r n V0 V1 V2 (.slice A' m.length c') w W' :=
  ⟨⟨⟨h.d.rq.rds0, h.d.rq.box.grown hg (h.own.ne_blk h.d.rq.box (by decide)), h.own.belowGrown h.d.bel hg (Nat.le_refl _) h.d.bel.size⟩, h.d.res.grown hg (h.own.ne_blk h.d.res (by decide))⟩, h.smp.grown hg (h.own.ne_blk h.smp (by decide)), h.hn⟩
theorem PS.stored {v : Value} {q : List Us} {A3 : Option Addr} {c3 : Nat} (h : PS r n V0 V1 V2 v w W) (ho : Own W w.heap.size 51 encU (.slice A3 q.length c3) q) : LS r n V0 V1 V2 q A3 c3 w (W.setCell ⟨n, 4, none⟩ (.slice A3 q.length c3)) :=
  ⟨h.d.far (by show _ < n; have := h.hn; omega) _, h.smp.set_ 4 _, ho.setFar h.smp (by decide) 4 _, h.hn⟩
end
def SReadP (t V0 V1 V2 : Int) (L : List Us) (w : World) : Bool → Ending → World → Prop
  | true, e, w' => ∃ A c, e = .returned (.tuple #[.agg #[.int .i64 t, .int .i64 V0, .int .i64 V1, .int .i64 V2, .slice A L.length c], .int .i64 0]) ∧ Own w' w.heap.size 51 encU (.slice A L.length c) L ∧ Below w.heap.size w w'
  | false, e, w' => e = .returned (.tuple #[.agg #[.int .i64 0, .int .i64 0, .int .i64 0, .int .i64 0, .slice none 0 0], .int .i64 1]) ∧ Below w.heap.size w w'
set_option maxRecDepth 100000 in
set_option maxHeartbeats 16000000 in
theorem sread_walk {t V0 V1 V2 : Int} {v0 v1 v2 c : Nat} {A : Option Addr} {l : List Ug} {v : Bool} (w : World) (hv : v = true ↔ RightR ⟨t, v0, v1, v2, A, l, c⟩) (hr : Rw.Wf ⟨t, v0, v1, v2, A, l, c⟩ w) (hV0 : readN v0 = V0) (hV1 : readN v1 = V1) (hV2 : readN v2 = V2) :
    Calls Tryd.prog 12 #[.agg #[.int .i64 t, .float .f64 v0, .float .f64 v1, .float .f64 v2, .slice A l.length c]] w (SReadP t V0 V1 V2 (readUses l) w v) := by
  have mixed : Tryd.prog.follows Departure.mixedOrders = true := by kernel_rfl
  have HD : Hid (DQ (⟨t, v0, v1, v2, A, l, c⟩ : Rw) w ((w.alloc (.cells #[.int .i64 t, .float .f64 v0, .float .f64 v1, .float .f64 v2, .slice A l.length c] 26)).alloc (.cells #[.int .i64 0, .int .i64 0, .int .i64 0, .int .i64 0, .slice none 0 0] 32))) := DQ.new _ w hr.rds
  have HR := Lib.hid hr.rds
  have HUG : Hid (∀ g ∈ l, g.Wf) := hr.us
  have HID : Hid (∀ g ∈ l, g.id.size ≤ 9223372036854775807) := hr.ids
  have HW : Hid (v0 < 18446744073709551616 ∧ v1 < 18446744073709551616 ∧ v2 < 18446744073709551616) := ⟨hr.h0, hr.h1, hr.h2⟩
  have HV : Hid (readN v0 = V0 ∧ readN v1 = V1 ∧ readN v2 = V2) := ⟨hV0, hV1, hV2⟩
  have HVV := Lib.hid hv
  have hlc := hr.len
  have hcm := hr.cap
  simp only at hlc hcm
  clear hr hV0 hV1 hV2 hv
  have cr : ∀ i, ((w.alloc (.cells #[.int .i64 t, .float .f64 v0, .float .f64 v1, .float .f64 v2, .slice A l.length c] 26)).alloc (.cells #[.int .i64 0, .int .i64 0, .int .i64 0, .int .i64 0, .slice none 0 0] 32)).cell? ⟨w.heap.size, i, none⟩ = (#[.int .i64 t, .float .f64 v0, .float .f64 v1, .float .f64 v2, .slice A l.length c] : Array Value)[i]? := HD.out.rq.box.cell
  go_enter Tryd.func12, Tryd.ntmps12
  go_wp2_with fail
  obtain ⟨kk, hkk⟩ : ∃ kk, (okN (kindN v0) && (okN (kindN v1) && okN (kindN v2))) = kk := ⟨_, rfl⟩
  have HKK := Lib.hid hkk
  clear hkk
  cases kk
  · refine (whole_no HW.out HV.out HKK.out _).mono ?_; rintro e w1 ⟨rfl, hb⟩
    have HD := Lib.hid (HD.out.below hb)
    clear hb cr
    have HN0 := Lib.hid (Blk.new w1 29 #[.int .i64 0, .int .i64 0, .int .i64 0])
    have HSW := Lib.hid HD.out.bel.size
    obtain rfl : v = false := sr_no HVV.out fun h => by have := k3_ok h.k; rw [HKK.out] at this; cases this
    go_wp2_with (first | (refine wl_store_blk rfl 29 (.tmp 4) (.tmp 15) rfl w1.heap.size 29 #[.int .i64 0, .int .i64 0, .int .i64 0] #[.int .i64 0, .int .i64 0, .int .i64 0] rfl rfl HN0.out rfl sz3n (by simp [Value.oneCell']) ?_; intro w2 hN1 hg1 hs1; have HD := Lib.hid (HD.out.fresh hg1); have cr : ∀ i, w2.cell? ⟨w.heap.size, i, none⟩ = (#[.int .i64 t, .float .f64 v0, .float .f64 v1, .float .f64 v2, .slice A l.length c] : Array Value)[i]? := HD.out.rq.box.cell; clear hN1 hg1 hs1) | (refine wl_store_blk rfl 32 (.tmp 2) (.tmp 31) rfl (w.heap.size + 1) 32 #[.int .i64 0, .int .i64 0, .int .i64 0, .int .i64 0, .slice none 0 0] #[.int .i64 0, .int .i64 0, .int .i64 0, .int .i64 0, .slice none 0 0] rfl rfl HD.out.res rfl szS (by simp [Value.oneCell']) ?_; intro w5 hR5 hg5 hs5))
    have hl5 : ∀ i, w5.cell? ⟨w.heap.size + 1, i, none⟩ = (#[.int .i64 0, .int .i64 0, .int .i64 0, .int .i64 0, .slice none 0 0] : Array Value)[i]? := hR5.cell
    exact bodyPost_ret (v := .tuple #[.agg #[.int .i64 0, .int .i64 0, .int .i64 0, .int .i64 0, .slice none 0 0], .int .i64 1]) (by simp [results, Tryd.results12, go_sem, hl5]) rfl ⟨rfl, HD.out.bel.grown hg5 HD.out.bel.size (by intro k hk; cases hk; omega)⟩
  · refine (whole_yes HW.out HV.out HKK.out _).mono ?_; rintro e w1 ⟨rfl, hb⟩
    have HD := Lib.hid (HD.out.below hb)
    clear hb cr
    have HN0 := Lib.hid (Blk.new w1 29 #[.int .i64 0, .int .i64 0, .int .i64 0])
    have HSW := Lib.hid HD.out.bel.size
    by_cases hl128 : 128 < l.length
    · have d1 : decide ((128 : Int) < (l.length : Int)) = true := decide_eq_true (by omega)
      have d2 : decide (128 < l.length) = true := decide_eq_true hl128
      obtain rfl : v = false := sr_no HVV.out fun h => by have := h.len; simp only at this; omega
      go_wp2_with (first | (refine wl_store_blk rfl 29 (.tmp 4) (.tmp 15) rfl w1.heap.size 29 #[.int .i64 0, .int .i64 0, .int .i64 0] #[.int .i64 V0, .int .i64 V1, .int .i64 V2] rfl rfl HN0.out rfl sz3n (by simp [Value.oneCell']) ?_; intro w2 hN1 hg1 hs1; have HD := Lib.hid (HD.out.fresh hg1); have cr : ∀ i, w2.cell? ⟨w.heap.size, i, none⟩ = (#[.int .i64 t, .float .f64 v0, .float .f64 v1, .float .f64 v2, .slice A l.length c] : Array Value)[i]? := HD.out.rq.box.cell; clear hN1 hg1 hs1) | (refine wl_store_blk rfl 32 (.tmp 2) (.tmp 31) rfl (w.heap.size + 1) 32 #[.int .i64 0, .int .i64 0, .int .i64 0, .int .i64 0, .slice none 0 0] #[.int .i64 0, .int .i64 0, .int .i64 0, .int .i64 0, .slice none 0 0] rfl rfl HD.out.res rfl szS (by simp [Value.oneCell']) ?_; intro w5 hR5 hg5 hs5))
      have hl5 : ∀ i, w5.cell? ⟨w.heap.size + 1, i, none⟩ = (#[.int .i64 0, .int .i64 0, .int .i64 0, .int .i64 0, .slice none 0 0] : Array Value)[i]? := hR5.cell
      exact bodyPost_ret (v := .tuple #[.agg #[.int .i64 0, .int .i64 0, .int .i64 0, .int .i64 0, .slice none 0 0], .int .i64 1]) (by simp [results, Tryd.results12, go_sem, hl5]) rfl ⟨rfl, HD.out.bel.grown hg5 HD.out.bel.size (by intro k hk; cases hk; omega)⟩
    · have d1 : decide ((128 : Int) < (l.length : Int)) = false := decide_eq_false (by omega)
      have d2 : decide (128 < l.length) = false := decide_eq_false hl128
      obtain ⟨va, hva⟩ : ∃ va : Bool, va = true ↔ AlTo l l.length := by classical exact ⟨decide (AlTo l l.length), by simp⟩
      have HVA := Lib.hid hva
      clear hva
      go_wp2_with (refine wl_store_blk rfl 29 (.tmp 4) (.tmp 15) rfl w1.heap.size 29 #[.int .i64 0, .int .i64 0, .int .i64 0] #[.int .i64 V0, .int .i64 V1, .int .i64 V2] rfl rfl HN0.out rfl sz3n (by simp [Value.oneCell']) ?_; intro w2 hN1 hg1 hs1; have HN1 := Lib.hid hN1; have HD := Lib.hid (HD.out.fresh hg1); have cr : ∀ i, w2.cell? ⟨w.heap.size, i, none⟩ = (#[.int .i64 t, .float .f64 v0, .float .f64 v1, .float .f64 v2, .slice A l.length c] : Array Value)[i]? := HD.out.rq.box.cell; clear hN1 hg1 hs1)
      refine (alone_any HVA.out A c _ (HR.out.below HD.out.bel) (by omega) hlc HID.out).mono ?_; rintro e w3 ⟨rfl, hb⟩
      have HD := Lib.hid (HD.out.below hb)
      have HN1 := Lib.hid (HN1.out.belowAll hb)
      clear hb cr d1 d2
      cases va
      · obtain rfl : v = false := sr_no HVV.out fun h => by have := HVA.out.2 (al_of h.ok); cases this
        have cr : ∀ i, w3.cell? ⟨w.heap.size, i, none⟩ = (#[.int .i64 t, .float .f64 v0, .float .f64 v1, .float .f64 v2, .slice A l.length c] : Array Value)[i]? := HD.out.rq.box.cell
        go_wp2_with (refine wl_store_blk rfl 32 (.tmp 2) (.tmp 31) rfl (w.heap.size + 1) 32 #[.int .i64 0, .int .i64 0, .int .i64 0, .int .i64 0, .slice none 0 0] #[.int .i64 0, .int .i64 0, .int .i64 0, .int .i64 0, .slice none 0 0] rfl rfl HD.out.res rfl szS (by simp [Value.oneCell']) ?_; intro w5 hR5 hg5 hs5)
        have hl5 : ∀ i, w5.cell? ⟨w.heap.size + 1, i, none⟩ = (#[.int .i64 0, .int .i64 0, .int .i64 0, .int .i64 0, .slice none 0 0] : Array Value)[i]? := hR5.cell
        exact bodyPost_ret (v := .tuple #[.agg #[.int .i64 0, .int .i64 0, .int .i64 0, .int .i64 0, .slice none 0 0], .int .i64 1]) (by simp [results, Tryd.results12, go_sem, hl5]) rfl ⟨rfl, HD.out.bel.grown hg5 HD.out.bel.size (by intro k hk; cases hk; omega)⟩
      · have HAL := Lib.hid (HVA.out.1 rfl)
        have cr : ∀ i, w3.cell? ⟨w.heap.size, i, none⟩ = (#[.int .i64 t, .float .f64 v0, .float .f64 v1, .float .f64 v2, .slice A l.length c] : Array Value)[i]? := HD.out.rq.box.cell
        have cn : ∀ i, w3.cell? ⟨w1.heap.size, i, none⟩ = (#[.int .i64 V0, .int .i64 V1, .int .i64 V2] : Array Value)[i]? := HN1.out.cell
        have HM0 := Lib.hid (Blk.new w3 32 #[.int .i64 0, .int .i64 0, .int .i64 0, .int .i64 0, .slice none 0 0])
        go_wp2_with (refine wl_store_blk rfl 32 (.tmp 6) (.tmp 35) rfl w3.heap.size 32 #[.int .i64 0, .int .i64 0, .int .i64 0, .int .i64 0, .slice none 0 0] #[.int .i64 t, .int .i64 V0, .int .i64 V1, .int .i64 V2, .slice none 0 0] rfl rfl HM0.out rfl szS (by simp [Value.oneCell']) ?_; intro w4 hM1 hg1 hs1; have HLT := Lib.hid HD.out.res.lt; have HL := Lib.hid (LS.start (HD.out.fresh hg1) hM1 HLT.out); have cr : ∀ i, w4.cell? ⟨w.heap.size, i, none⟩ = (#[.int .i64 t, .float .f64 v0, .float .f64 v1, .float .f64 v2, .slice A l.length c] : Array Value)[i]? := HL.out.d.rq.box.cell; clear hM1 hg1 hs1)
        clear HD HN1 HN0 HM0 HLT HVA
        generalize w3.heap.size = n at *
        generalize w1.heap.size = n1 at *
        go_loopw [39, 3] (fun i e wr => ∃ (k : Nat) (A' : Option Addr) (c' : Nat), k ≤ l.length ∧ i = .int .i64 k ∧ e = .int .i64 0 ∧ (∀ i (hi : i < l.length), i < k → K3 l[i].f0 l[i].f1 l[i].f2) ∧ LS (⟨t, v0, v1, v2, A, l, c⟩ : Rw) n V0 V1 V2 ((l.take k).map toUs) A' c' w wr) (fun i _ _ => l.length - (intOf i).toNat)
        case atStart => exact ⟨0, none, 0, by omega, rfl, rfl, fun i _ h => by omega, HL.out⟩
        case round =>
          clear HL cr
          obtain ⟨k, A', c', hk, rfl, rfl, hkk, hls⟩ := hrel
          obtain ⟨m, hm⟩ : ∃ m, (l.take k).map toUs = m := ⟨_, rfl⟩
          rw [hm] at hls
          have HM := Lib.hid hm
          have HL := Lib.hid hls
          have HK3 := Lib.hid hkk
          have hml : m.length = k := by rw [← hm, List.length_map, List.length_take]; omega
          have HML := Lib.hid hml
          have hmm : m.length ≤ 128 := by omega
          clear hm hls hkk hml
          by_cases hlt : k < l.length
          · have dk : decide ((k : Int) < (l.length : Int)) = true := decide_eq_true (by omega)
            have dk2 : (k : Int) < (l.length : Int) := by omega
            obtain ⟨b, off, rfl, _, g0, g1, g2, g3⟩ := (HR.out.below HL.out.d.bel).ug hlt
            have HGW := Lib.hid (HUG.out _ (List.getElem_mem hlt))
            have HNX := Lib.hid (show (l.take (k + 1)).map toUs = m ++ [toUs l[k]] by rw [List.take_succ_eq_append_getElem hlt, List.map_append, HM.out]; rfl)
            have HKN := Lib.hid (fun h : RightR ⟨t, v0, v1, v2, some ⟨b, off, none⟩, l, c⟩ => (h.ok k hlt hlt).k)
            have HKS := Lib.hid (fun h : K3 l[k].f0 l[k].f1 l[k].f2 => (fun i hi h2 => by
              rcases Nat.lt_or_ge i k with h3 | h3
              · exact HK3.out i hi h3
              · obtain rfl : i = k := by omega
                exact h : ∀ i (hi : i < l.length), i < k + 1 → K3 l[i].f0 l[i].f1 l[i].f2))
            generalize l[k] = g at *
            have HWG : Hid (g.f0 < 18446744073709551616 ∧ g.f1 < 18446744073709551616 ∧ g.f2 < 18446744073709551616) := ⟨HGW.out.h0, HGW.out.h1, HGW.out.h2⟩
            obtain ⟨x, y, z, HX⟩ : ∃ x y z, Hid (readN g.f0 = x ∧ readN g.f1 = y ∧ readN g.f2 = z) := ⟨_, _, _, ⟨rfl, rfl, rfl⟩⟩
            have HUS := Lib.hid (show toUs g = ⟨g.id, x, y, z⟩ by unfold toUs; rw [HX.out.1, HX.out.2.1, HX.out.2.2])
            obtain ⟨kg, hkg⟩ : ∃ kk, (okN (kindN g.f0) && (okN (kindN g.f1) && okN (kindN g.f2))) = kk := ⟨_, rfl⟩
            have HKG := Lib.hid hkg
            clear hkg HGW HM
            have HU0 := Lib.hid (Blk.new wr 47 zeroU)
            go_wp2_with (refine wl_store_blk rfl 47 (.tmp 8) (.tmp 42) rfl wr.heap.size 47 zeroU g.cells rfl rfl HU0.out rfl szG (ug_one g) ?_; intro w5 hU1 hg1 hs1; have HL := Lib.hid (HL.out.fresh hg1); have HU := Lib.hid hU1; have cu : ∀ i, w5.cell? ⟨wr.heap.size, i, none⟩ = (#[.string g.id, .float .f64 g.f0, .float .f64 g.f1, .float .f64 g.f2] : Array Value)[i]? := HU.out.cell; clear hU1 hg1 hs1)
            clear HU0 g0 g1 g2 g3
            generalize wr.heap.size = nu at *
            cases kg
            · refine (whole_no HWG.out HX.out HKG.out _).mono ?_; rintro e w6 ⟨rfl, hb⟩
              have HL := Lib.hid (HL.out.below hb)
              have HU := Lib.hid (HU.out.belowAll hb)
              clear hb cu
              have HN0 := Lib.hid (Blk.new w6 29 #[.int .i64 0, .int .i64 0, .int .i64 0])
              obtain rfl : v = false := sr_no HVV.out fun h => by have := k3_ok (HKN.out h); rw [HKG.out] at this; cases this
              go_wp2_with (first | (refine wl_store_blk rfl 29 (.tmp 9) (.tmp 47) rfl w6.heap.size 29 #[.int .i64 0, .int .i64 0, .int .i64 0] #[.int .i64 0, .int .i64 0, .int .i64 0] rfl rfl HN0.out rfl sz3n (by simp [Value.oneCell']) ?_; intro w7 hN1 hg1 hs1; have HL := Lib.hid (HL.out.fresh hg1); have HD := Lib.hid HL.out.d; clear hN1 hg1 hs1) | (refine wl_store_blk rfl 32 (.tmp 2) (.tmp 51) rfl (w.heap.size + 1) 32 #[.int .i64 0, .int .i64 0, .int .i64 0, .int .i64 0, .slice none 0 0] #[.int .i64 0, .int .i64 0, .int .i64 0, .int .i64 0, .slice none 0 0] rfl rfl HD.out.res rfl szS (by simp [Value.oneCell']) ?_; intro w5 hR5 hg5 hs5))
              have hl5 : ∀ i, w5.cell? ⟨w.heap.size + 1, i, none⟩ = (#[.int .i64 0, .int .i64 0, .int .i64 0, .int .i64 0, .slice none 0 0] : Array Value)[i]? := hR5.cell
              exact bodyPost_ret (v := .tuple #[.agg #[.int .i64 0, .int .i64 0, .int .i64 0, .int .i64 0, .slice none 0 0], .int .i64 1]) (by simp [results, Tryd.results12, go_sem, hl5]) rfl ⟨rfl, HD.out.bel.grown hg5 HD.out.bel.size (by intro k hk; cases hk; omega)⟩
            · refine (whole_yes HWG.out HX.out HKG.out _).mono ?_; rintro e w6 ⟨rfl, hb⟩
              have HL := Lib.hid (HL.out.below hb)
              have HU := Lib.hid (HU.out.belowAll hb)
              clear hb cu
              have HN0 := Lib.hid (Blk.new w6 29 #[.int .i64 0, .int .i64 0, .int .i64 0])
              have HKS := Lib.hid (HKS.out (k3_of HKG.out))
              go_wp2_with (first | (refine wl_store_blk rfl 29 (.tmp 9) (.tmp 47) rfl w6.heap.size 29 #[.int .i64 0, .int .i64 0, .int .i64 0] #[.int .i64 x, .int .i64 y, .int .i64 z] rfl rfl HN0.out rfl sz3n (by simp [Value.oneCell']) ?_; intro w7 hN1 hg1 hs1; have HL := Lib.hid (HL.out.fresh hg1); have HU := Lib.hid ((HU.out.alloc _).grown hg1 (by have := HU.out.lt; intro e; injection e with e; omega)); have HN := Lib.hid hN1; have cu : ∀ i, w7.cell? ⟨nu, i, none⟩ = (#[.string g.id, .float .f64 g.f0, .float .f64 g.f1, .float .f64 g.f2] : Array Value)[i]? := HU.out.cell; have cn : ∀ i, w7.cell? ⟨w6.heap.size, i, none⟩ = (#[.int .i64 x, .int .i64 y, .int .i64 z] : Array Value)[i]? := HN.out.cell; have cs : ∀ i, w7.cell? ⟨n, i, none⟩ = (#[.int .i64 t, .int .i64 V0, .int .i64 V1, .int .i64 V2, .slice A' m.length c'] : Array Value)[i]? := HL.out.smp.cell; clear hN1 hg1 hs1) | (at_builtin; refine wl_push elemU encU rfl (.tmp 53) (.tmp 58) rfl (⟨g.id, x, y, z⟩ : Us) (⟨g.id, x, y, z⟩ : Us).cells rfl w.heap.size _ m rfl HL.out.own rfl rfl HL.out.d.bel (by omega) (by omega) HL.out.d.bel.size ?_; intro A3 k3 w8 ho hb hg; have HPS := Lib.hid (HL.out.push hg hb); have HO3 := Lib.hid (own_len1 ho); have cn4 : w8.cell? ⟨n, 4, none⟩ = some (.slice A' m.length c') := HPS.out.smp.cell 4; have fn4 : w8.frozen? ⟨n, 4, none⟩ = false := HPS.out.smp.frozen 4; clear ho hb hg cu cn cs))
              go_roundw
              case rel => exact ⟨k + 1, A3, k3, by omega, by go_num, rfl, HKS.out, by rw [HNX.out, HUS.out]; have := HPS.out.stored HO3.out; rwa [List.length_append] at this⟩
              case measure => simp [intOf]; omega
          · obtain rfl : k = l.length := by omega
            have dk : decide ((l.length : Int) < (l.length : Int)) = false := by simp
            have HRT := Lib.hid (show RightR ⟨t, v0, v1, v2, A, l, c⟩ from ⟨by show l.length ≤ 128; omega, k3_of HKK.out, ok_of HK3.out HAL.out⟩)
            obtain rfl : v = true := HVV.out.2 HRT.out
            have cs : ∀ i, wr.cell? ⟨n, i, none⟩ = (#[.int .i64 t, .int .i64 V0, .int .i64 V1, .int .i64 V2, .slice A' m.length c'] : Array Value)[i]? := HL.out.smp.cell
            go_wp2_with fail
            refine (sortU_any m A' c' _ w.heap.size HL.out.own (by omega)).mono ?_; rintro e w6 ⟨rfl, L', hp, hsd, ho, hg⟩
            obtain rfl : L' = readUses l := sort_read HRT.out (by rw [List.take_length] at HM; rw [HM.out]; exact hp) hsd
            have HLN := Lib.hid (show m.length = (readUses l).length from hp.length_eq.symm)
            have HS2 := Lib.hid (HL.out.sorted hg)
            have HO := Lib.hid ho
            clear hp hsd ho hg cs
            have cs : ∀ i, w6.cell? ⟨n, i, none⟩ = (#[.int .i64 t, .int .i64 V0, .int .i64 V1, .int .i64 V2, .slice A' m.length c'] : Array Value)[i]? := HS2.out.smp.cell
            go_wp2_with (refine wl_store_blk rfl 32 (.tmp 2) (.tmp 65) rfl (w.heap.size + 1) 32 #[.int .i64 0, .int .i64 0, .int .i64 0, .int .i64 0, .slice none 0 0] #[.int .i64 t, .int .i64 V0, .int .i64 V1, .int .i64 V2, .slice A' m.length c'] rfl rfl HS2.out.d.res rfl szS (by simp [Value.oneCell']) ?_; intro w7 hR5 hg5 hs5)
            have hl5 : ∀ i, w7.cell? ⟨w.heap.size + 1, i, none⟩ = (#[.int .i64 t, .int .i64 V0, .int .i64 V1, .int .i64 V2, .slice A' m.length c'] : Array Value)[i]? := hR5.cell
            have HO7 := Lib.hid (HO.out.grown hg5 (.inr (HO.out.ne_blk HS2.out.d.res (by decide)).symm))
            have HB7 := Lib.hid (HS2.out.d.bel.grown hg5 HS2.out.d.bel.size (by intro k hk; cases hk; omega))
            exact bodyPost_ret (v := .tuple #[.agg #[.int .i64 t, .int .i64 V0, .int .i64 V1, .int .i64 V2, .slice A' m.length c'], .int .i64 0]) (by simp [results, Tryd.results12, go_sem, hl5]) rfl ⟨A', c', by rw [← HLN.out], HO7.out, HB7.out⟩
theorem sread_any {r : Rw} {v : Bool} (hv : v = true ↔ RightR r) (w : World) (hr : r.Wf w) :
    Calls Tryd.prog 12 #[.agg r.cells] w (SReadP r.time (readN r.v0) (readN r.v1) (readN r.v2) (readUses r.uses) w v) := sread_walk w hv hr rfl rfl rfl
end Go.Proofs.YtampjkgkiooibaaDoor
