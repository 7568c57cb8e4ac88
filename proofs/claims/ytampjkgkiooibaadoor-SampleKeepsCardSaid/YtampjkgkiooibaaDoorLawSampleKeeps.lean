/- bilgelaw17.SampleKeeps: what is handed in stays; what is answered is new memory. -/
import Derived.Test.YtampjkgkiooibaaDoorSFloat
import Derived.Test.YtampjkgkiooibaaDoorHeldStore
namespace Go.Proofs.YtampjkgkiooibaaDoor
open Go.RowKit

theorem right17X {t : Int} {v0 v1 v2 c : Nat} {A : Option Addr} {l : List Ug} {v : Bool} (hv : v = true ↔ RightR ⟨t, v0, v1, v2, A, l, c⟩) (w : World) (hr : Rw.Wf ⟨t, v0, v1, v2, A, l, c⟩ w) :
    Calls Tryd.prog 14 #[.agg #[.int .i64 t, .float .f64 v0, .float .f64 v1, .float .f64 v2, .slice A l.length c]] w fun e w' => e = .returned (.bool v) ∧ Below w.heap.size w w' := right17V_any hv w hr
section
variable {P : Program} {ops : Array Oper} {Q : Exit → Act → World → Prop} {S : World → Prop} {md : Region.Mode} {fuel : Nat} {listed : Array Bool} {a : Act} {w : World}
theorem held_twoD (i j di dj : Nat) {oi oj : Oper} (hi : ops[i]? = some oi) (hj : ops[j]? = some oj) (hdi : oi.dst = some di) (hdj : oj.dst = some dj) (hr : Region.ready md ops listed = [i, j]) (hwi : Region.wanted oi (yielded ops a.tmps) = true) (hwj : Region.wanted oj (yielded ops a.tmps) = true)
    (h1 : ∀ K : Act → World → Prop, (∀ v w', S w' → wpAnyH P md ops Q S fuel (listed.setIfInBounds i true) (a.put (some di) v) w' → K (a.put (some di) v) w') → Oper.wp P oi a w K Q)
    (h2 : ∀ K : Act → World → Prop, (∀ v w', S w' → wpAnyH P md ops Q S fuel (listed.setIfInBounds j true) (a.put (some dj) v) w' → K (a.put (some dj) v) w') → Oper.wp P oj a w K Q) : wpAnyH P md ops Q S (fuel + 1) listed a w :=
  held_two i j hi hj hr hwi hwj (by rw [hdi]; exact h1) (by rw [hdj]; exact h2)
end
theorem wholeX3 {f0 f1 f2 : Nat} {x y z : Int} (h : f0 < 18446744073709551616 ∧ f1 < 18446744073709551616 ∧ f2 < 18446744073709551616) (hx : readN f0 = x ∧ readN f1 = y ∧ readN f2 = z) (w : World) :
    Calls Tryd.prog 24 #[.agg #[.float .f64 f0, .float .f64 f1, .float .f64 f2]] w fun e w' => e = .returned (.agg #[.int .i64 x, .int .i64 y, .int .i64 z]) ∧ Below w.heap.size w w' := wholeV_any h.1 h.2.1 h.2.2 hx.1 hx.2.1 hx.2.2 w
theorem elemG : Elem Tryd.prog 24 47 4 40 := by
  obtain ⟨i, h1, h2, h3, h4⟩ := info_parts (show (Tryd.prog.info? 47).map (fun i => (i.zero, i.size, i.bytes)) = some (some (.agg #[.string ⟨#[]⟩, .float .f64 0, .float .f64 0, .float .f64 0]), 4, 40) by kernel_rfl)
  exact ⟨Tryd.underlying24, i, _, h1, h2, h3, h4, rfl⟩
theorem ug_cells {W : World} {b off i : Nat} {l : List Ug} {g : Ug} (h : Rds W encG (some ⟨b, off, none⟩) l) (hg : l[i]? = some g) :
    W.cell? ⟨b, off + i * 4, none⟩ = some (.string g.id) ∧ W.cell? ⟨b, off + i * 4 + 1, none⟩ = some (.float .f64 g.f0) ∧ W.cell? ⟨b, off + i * 4 + 2, none⟩ = some (.float .f64 g.f1) ∧ W.cell? ⟨b, off + i * 4 + 3, none⟩ = some (.float .f64 g.f2) := by
  obtain ⟨hi, e⟩ := List.getElem?_eq_some_iff.1 hg
  obtain ⟨b', off', hA, _, c0, c1, c2, c3⟩ := h.ug hi
  cases hA
  rw [e] at c0 c1 c2 c3
  exact ⟨c0, c1, c2, c3⟩
abbrev zzG : Ug := ⟨⟨#[122, 122]⟩, 0, 0, 0⟩
def gTo (l : List Ug) (i : Nat) : List Ug := List.replicate i zzG ++ l.drop i
theorem gTo_len (l : List Ug) (i : Nat) (h : i ≤ l.length) : (gTo l i).length = l.length := by unfold gTo; rw [List.length_append, List.length_replicate, List.length_drop]; omega
theorem gTo_at (l : List Ug) (i : Nat) (h : i < l.length) : (gTo l i)[i]? = some l[i] := by
  unfold gTo
  rw [List.getElem?_append_right (by simp), List.length_replicate, Nat.sub_self, List.getElem?_drop, Nat.add_zero, List.getElem?_eq_getElem h]
theorem gTo_set (l : List Ug) (i : Nat) (h : i < l.length) : (gTo l i).set i zzG = gTo l (i + 1) := by
  unfold gTo
  rw [List.set_append_right _ _ (by simp), List.length_replicate, Nat.sub_self, List.drop_eq_getElem_cons h, List.set_cons_zero, List.replicate_succ', List.append_assoc]; rfl
theorem gTo_zero (l : List Ug) : gTo l 0 = l := by unfold gTo; simp
theorem Own.cap2 {w : World} {b : Nat} {l : List Ug} {At : Option Addr} {ct : Nat} (h : Own w b 47 encG (.slice At l.length ct) l) : l.length ≤ ct ∧ ct ≤ 9223372036854775807 := ⟨h.cap.2.1, h.cap.2.2⟩
theorem sk_wf {t : Int} {v0 v1 v2 c ct : Nat} {A At : Option Addr} {l : List Ug} {w W : World} (h : Rw.Wf ⟨t, v0, v1, v2, A, l, c⟩ w) (hr : Rds W encG At l) (hc : l.length ≤ ct ∧ ct ≤ 9223372036854775807) : Rw.Wf ⟨t, v0, v1, v2, At, l, ct⟩ W := ⟨h.h0, h.h1, h.h2, h.time, hr, h.us, h.ids, hc.1, hc.2⟩
/-- what was handed in, what was answered, and where it lies -/
structure SK (t x0 x1 x2 : Int) (v0 v1 v2 : Nat) (A : Option Addr) (l : List Ug) (c N : Nat) (At : Option Addr) (ct n4 : Nat) (A1 : Option Addr) (c1 : Nat) (L : List Us) (n5 b0 : Nat) (Z : List Ug) (w W : World) : Prop where
  q : RQ (⟨t, v0, v1, v2, A, l, c⟩ : Rw) w W
  n : Blk W N 26 #[.int .i64 t, .float .f64 v0, .float .f64 v1, .float .f64 v2, .slice At l.length ct]
  s : Blk W n4 32 #[.int .i64 t, .int .i64 x0, .int .i64 x1, .int .i64 x2, .slice A1 L.length c1]
  z : Own W n5 47 encG (.slice At l.length ct) Z
  o : Own W b0 51 encU (.slice A1 L.length c1) L
  hn : w.heap.size < n5
section
variable {t x0 x1 x2 : Int} {v0 v1 v2 c N ct n4 c1 n5 b0 : Nat} {A At A1 : Option Addr} {l Z : List Ug} {L : List Us} {w W W' : World}
theorem SK.below (h : SK t x0 x1 x2 v0 v1 v2 A l c N At ct n4 A1 c1 L n5 b0 Z w W) (hb : Below W.heap.size W W') : SK t x0 x1 x2 v0 v1 v2 A l c N At ct n4 A1 c1 L n5 b0 Z w W' :=
  ⟨h.q.below hb, h.n.belowAll hb, h.s.belowAll hb, h.z.below hb (Nat.le_refl _), h.o.below hb (Nat.le_refl _), h.hn⟩
theorem SK.setZ {g : Nat} {Z' : List Ug} (h : SK t x0 x1 x2 v0 v1 v2 A l c N (some ⟨g, 0, none⟩) ct n4 A1 c1 L n5 b0 Z w W) (hg : W.grownBy W' (some g)) (ho : Own W' n5 47 encG (.slice (some ⟨g, 0, none⟩) l.length ct) Z') (hgo : g < b0) : SK t x0 x1 x2 v0 v1 v2 A l c N (some ⟨g, 0, none⟩) ct n4 A1 c1 L n5 b0 Z' w W' := by
  have hz := h.hn
  have hgz : n5 ≤ g := (h.z.block_lt g rfl).1
  exact ⟨⟨h.q.rds0, h.q.box.grown hg (by intro e; injection e with e; omega), h.z.belowGrown h.q.bel hg (by omega) h.q.bel.size⟩, h.n.grown hg (h.z.ne_blk h.n (by decide)), h.s.grown hg (h.z.ne_blk h.s (by decide)), ho, h.o.setApart hg hgo, h.hn⟩
end
set_option maxRecDepth 100000 in
set_option maxHeartbeats 16000000 in
theorem sampleKeeps_any {t : Int} {v0 v1 v2 c : Nat} {A : Option Addr} {l : List Ug} (w : World) (hr : Rw.Wf ⟨t, v0, v1, v2, A, l, c⟩ w) :
    Calls Tryd.prog 8 #[.agg #[.int .i64 t, .float .f64 v0, .float .f64 v1, .float .f64 v2, .slice A l.length c]] w fun e w' => e = .returned (.bool true) ∧ Below w.heap.size w w' := by
  have mixed : Tryd.prog.follows Departure.mixedOrders = true := by kernel_rfl
  have HQ : Hid (RQ (⟨t, v0, v1, v2, A, l, c⟩ : Rw) w (w.alloc (.cells #[.int .i64 t, .float .f64 v0, .float .f64 v1, .float .f64 v2, .slice A l.length c] 26))) := RQ.new _ w hr.rds
  have HWF := Lib.hid hr
  have hlc := hr.len
  have hcm := hr.cap
  simp only at hlc hcm
  have ht := hr.time
  clear hr
  have HNB := Lib.hid ht
  have cr : ∀ i, (w.alloc (.cells #[.int .i64 t, .float .f64 v0, .float .f64 v1, .float .f64 v2, .slice A l.length c] 26)).cell? ⟨w.heap.size, i, none⟩ = (#[.int .i64 t, .float .f64 v0, .float .f64 v1, .float .f64 v2, .slice A l.length c] : Array Value)[i]? := HQ.out.box.cell
  go_enter Tryd.func8, Tryd.ntmps8
  go_wp2_with fail
  refine (awake17_any _).mono ?_; rintro e w1 ⟨rfl, hb⟩
  have HQ := Lib.hid (HQ.out.below hb)
  clear hb cr
  have cr : ∀ i, w1.cell? ⟨w.heap.size, i, none⟩ = (#[.int .i64 t, .float .f64 v0, .float .f64 v1, .float .f64 v2, .slice A l.length c] : Array Value)[i]? := HQ.out.box.cell
  go_wp2_with fail
  obtain ⟨vf, hvf⟩ : ∃ v, fewR l = v := ⟨_, rfl⟩
  refine (few17V_any (r := ⟨t, v0, v1, v2, A, l, c⟩) hvf _ (HWF.out.below HQ.out.bel).rds (by show l.length ≤ _; omega) HWF.out.ids).mono ?_; rintro e w2 ⟨rfl, hb⟩
  have HQ := Lib.hid (HQ.out.below hb)
  have HFW := Lib.hid hvf
  clear hb cr hvf
  cases vf
  · clear HFW
    go_wp2_with fail
    refine (awake17_any _).mono ?_; rintro e w9 ⟨rfl, hb⟩
    have HQ := Lib.hid (HQ.out.below hb)
    clear hb
    go_wp2_with fail
    go_ret
    exact ⟨rfl, HQ.out.bel⟩
  · have hl140 := few_len HFW.out
    obtain ⟨v, hv⟩ := exRight (⟨t, v0, v1, v2, A, l, c⟩ : Rw)
    have HVV := Lib.hid hv
    clear hv
    have cr : ∀ i, w2.cell? ⟨w.heap.size, i, none⟩ = (#[.int .i64 t, .float .f64 v0, .float .f64 v1, .float .f64 v2, .slice A l.length c] : Array Value)[i]? := HQ.out.box.cell
    go_wp2_with fail
    refine (right17X HVV.out _ (HWF.out.below HQ.out.bel)).mono ?_; rintro x w5 ⟨rfl, hb⟩
    have HQ := Lib.hid (HQ.out.below hb)
    have HRV := Lib.hid (fun h => HVV.out.1 h)
    clear hb cr HVV
    cases v
    · clear HRV
      go_wp2_with fail
      refine (awake17_any _).mono ?_; rintro e w9 ⟨rfl, hb⟩
      have HQ := Lib.hid (HQ.out.below hb)
      clear hb
      go_wp2_with fail
      go_ret
      exact ⟨rfl, HQ.out.bel⟩
    · have HRT : Hid (RightR (⟨t, v0, v1, v2, A, l, c⟩ : Rw)) := HRV.out rfl
      clear HRV
      go_wp2_with fail
      go_cut [3] (fun v W => ∃ (N : Nat) (At : Option Addr) (ct : Nat), v = .pointer (some ⟨N, 0, none⟩) ∧ Blk W N 26 #[.int .i64 t, .float .f64 v0, .float .f64 v1, .float .f64 v2, .slice At l.length ct] ∧ Own W w5.heap.size 47 encG (.slice At l.length ct) l ∧ Below w5.heap.size w5 W)
      case first =>
        have HSd := Lib.hid HQ.out.drew
        have HB3d : Hid (Below w5.heap.size w5 w5.drew) := (Below.refl _ _).drew
        have HU0 := Lib.hid ((HWF.out.below HQ.out.bel).rds.below HB3d.out)
        refine wp_region_held_drew (S := (fun w' => w'.cell? ⟨w.heap.size, 0, none⟩ = some (.int .i64 t) ∧ w'.cell? ⟨w.heap.size, 1, none⟩ = some (.float .f64 v0) ∧ w'.cell? ⟨w.heap.size, 2, none⟩ = some (.float .f64 v1) ∧ w'.cell? ⟨w.heap.size, 3, none⟩ = some (.float .f64 v2) ∧ w'.cell? ⟨w.heap.size, 4, none⟩ = some (.slice A l.length c))) (by kernel_rfl) (⟨(HSd.out).box.cell 0, (HSd.out).box.cell 1, (HSd.out).box.cell 2, (HSd.out).box.cell 3, (HSd.out).box.cell 4⟩) (fun hHeld => ?_)
        generalize w5.drew = W3d at *
        have hB0 : Below W3d.heap.size W3d W3d := Below.refl _ _
        refine held_take 0 20 (.pointer (some ⟨w.heap.size, 0, none⟩)) rfl rfl (by kernel_rfl) (by kernel_rfl) (by kernel_rfl) (fun _ _ _ h => h) (by rfl) (by intro w' hSw; (try dsimp only at hSw); go_simp; (try (with_reducible rfl))) (by assumption) ?_
        simp only [Act.put, List.setIfInBounds_toArray, List.set_cons_zero, List.set_cons_succ]
        refine held_take 1 21 (.int .i64 t) rfl rfl (by kernel_rfl) (by kernel_rfl) (by kernel_rfl) (fun _ _ _ h => h) (by rfl) (by intro w' hSw; (try dsimp only at hSw); go_simp; (try (with_reducible rfl))) (by assumption) ?_
        simp only [Act.put, List.setIfInBounds_toArray, List.set_cons_zero, List.set_cons_succ]
        refine held_take 2 22 (.pointer (some ⟨w.heap.size, 1, none⟩)) rfl rfl (by kernel_rfl) (by kernel_rfl) (by kernel_rfl) (fun _ _ _ h => h) (by rfl) (by intro w' hSw; (try dsimp only at hSw); go_simp; (try (with_reducible rfl))) (by assumption) ?_
        simp only [Act.put, List.setIfInBounds_toArray, List.set_cons_zero, List.set_cons_succ]
        refine held_take 3 23 (.agg #[.float .f64 v0, .float .f64 v1, .float .f64 v2]) rfl rfl (by kernel_rfl) (by kernel_rfl) (by kernel_rfl) (fun _ _ _ h => h) (by rfl) (by intro w' hSw; (try dsimp only at hSw); go_simp; (try (with_reducible rfl))) (by assumption) ?_
        simp only [Act.put, List.setIfInBounds_toArray, List.set_cons_zero, List.set_cons_succ]
        refine held_take 5 25 (.pointer (some ⟨w.heap.size, 4, none⟩)) rfl rfl (by kernel_rfl) (by kernel_rfl) (by kernel_rfl) (fun _ _ _ h => h) (by rfl) (by intro w' hSw; (try dsimp only at hSw); go_simp; (try (with_reducible rfl))) (by assumption) ?_
        simp only [Act.put, List.setIfInBounds_toArray, List.set_cons_zero, List.set_cons_succ]
        refine held_take 6 26 (.slice A l.length c) rfl rfl (by kernel_rfl) (by kernel_rfl) (by kernel_rfl) (fun _ _ _ h => h) (by rfl) (by intro w' hSw; (try dsimp only at hSw); go_simp; (try (with_reducible rfl))) (by assumption) ?_
        simp only [Act.put, List.setIfInBounds_toArray, List.set_cons_zero, List.set_cons_succ]
        have HB0 := Lib.hid hB0
        clear hB0
        refine held_twoD 4 9 24 3 rfl rfl rfl rfl (by kernel_rfl) (by rfl) (by rfl) (fun K hK => ?_) (fun K hK => ?_)
        · go_simp
          refine hK _ _ (⟨(HSd.out.alloc (.cells #[] 47)).box.cell 0, (HSd.out.alloc (.cells #[] 47)).box.cell 1, (HSd.out.alloc (.cells #[] 47)).box.cell 2, (HSd.out.alloc (.cells #[] 47)).box.cell 3, (HSd.out.alloc (.cells #[] 47)).box.cell 4⟩) ?_
          have hHeld := (show (W3d.alloc (.cells #[] 47)).cell? ⟨w.heap.size, 0, none⟩ = some (.int .i64 t) ∧ (W3d.alloc (.cells #[] 47)).cell? ⟨w.heap.size, 1, none⟩ = some (.float .f64 v0) ∧ (W3d.alloc (.cells #[] 47)).cell? ⟨w.heap.size, 2, none⟩ = some (.float .f64 v1) ∧ (W3d.alloc (.cells #[] 47)).cell? ⟨w.heap.size, 3, none⟩ = some (.float .f64 v2) ∧ (W3d.alloc (.cells #[] 47)).cell? ⟨w.heap.size, 4, none⟩ = some (.slice A l.length c) from ⟨(HSd.out.alloc (.cells #[] 47)).box.cell 0, (HSd.out.alloc (.cells #[] 47)).box.cell 1, (HSd.out.alloc (.cells #[] 47)).box.cell 2, (HSd.out.alloc (.cells #[] 47)).box.cell 3, (HSd.out.alloc (.cells #[] 47)).box.cell 4⟩)
          clear hK K
          simp only [Act.put, List.setIfInBounds_toArray, List.set_cons_zero, List.set_cons_succ]
          have HS1 := Lib.hid (HSd.out.alloc (.cells #[] 47))
          have HB1 := Lib.hid (HB0.out.alloc HB0.out.size (.cells #[] 47))
          have HO1 := Lib.hid (Own.made W3d W3d.heap.size 47 encG [] #[] rfl HB0.out.size (by simp))
          have HU1 := Lib.hid (HU0.out.alloc (.cells #[] 47))
          refine held_twoD 7 9 27 3 rfl rfl rfl rfl (by kernel_rfl) (by rfl) (by rfl) (fun K hK => ?_) (fun K hK => ?_)
          · refine wp_app _ elemG encG (.tmp 24) (.tmp 26) rfl W3d.heap.size _ [] (by simp [Act.eval]) HO1.out A l c (by simp [Act.eval]) HU1.out (by simp; omega) (by simp; omega) HB1.out.size ?_
            intro At ct w4x ho hg _
            rw [List.length_nil, Nat.zero_add, List.nil_append] at ho
            rw [List.length_nil, Nat.zero_add]
            have hb4 := HO1.out.belowGrown HB1.out hg (Nat.le_refl _) HB1.out.size
            have HR2 := Lib.hid ho
            have HB2 := Lib.hid hb4
            have HS2 := Lib.hid (HSd.out.below hb4)
            clear ho hg hb4
            refine hK _ _ (⟨(HS2.out).box.cell 0, (HS2.out).box.cell 1, (HS2.out).box.cell 2, (HS2.out).box.cell 3, (HS2.out).box.cell 4⟩) ?_
            have hHeld := (show w4x.cell? ⟨w.heap.size, 0, none⟩ = some (.int .i64 t) ∧ w4x.cell? ⟨w.heap.size, 1, none⟩ = some (.float .f64 v0) ∧ w4x.cell? ⟨w.heap.size, 2, none⟩ = some (.float .f64 v1) ∧ w4x.cell? ⟨w.heap.size, 3, none⟩ = some (.float .f64 v2) ∧ w4x.cell? ⟨w.heap.size, 4, none⟩ = some (.slice A l.length c) from ⟨(HS2.out).box.cell 0, (HS2.out).box.cell 1, (HS2.out).box.cell 2, (HS2.out).box.cell 3, (HS2.out).box.cell 4⟩)
            clear hK K
            simp only [Act.put, List.setIfInBounds_toArray, List.set_cons_zero, List.set_cons_succ]
            refine held_take 8 28 (.agg #[.int .i64 t, .float .f64 v0, .float .f64 v1, .float .f64 v2, .slice At l.length ct]) rfl rfl (by kernel_rfl) (by kernel_rfl) (by kernel_rfl) (fun _ _ _ h => h) (by rfl) (by intro w' hSw; (try dsimp only at hSw); go_simp; (try (with_reducible rfl))) (by assumption) ?_
            simp only [Act.put, List.setIfInBounds_toArray, List.set_cons_zero, List.set_cons_succ]
            refine held_call 9 3 rfl rfl (by kernel_rfl) (by rfl) (fun K hK => ?_)
            go_simp
            refine hK _ _ (⟨(HS2.out.alloc (.cells #[.int .i64 0, .float .f64 0, .float .f64 0, .float .f64 0, .slice none 0 0] 26)).box.cell 0, (HS2.out.alloc (.cells #[.int .i64 0, .float .f64 0, .float .f64 0, .float .f64 0, .slice none 0 0] 26)).box.cell 1, (HS2.out.alloc (.cells #[.int .i64 0, .float .f64 0, .float .f64 0, .float .f64 0, .slice none 0 0] 26)).box.cell 2, (HS2.out.alloc (.cells #[.int .i64 0, .float .f64 0, .float .f64 0, .float .f64 0, .slice none 0 0] 26)).box.cell 3, (HS2.out.alloc (.cells #[.int .i64 0, .float .f64 0, .float .f64 0, .float .f64 0, .slice none 0 0] 26)).box.cell 4⟩) ?_
            have hHeld := (show (w4x.alloc (.cells #[.int .i64 0, .float .f64 0, .float .f64 0, .float .f64 0, .slice none 0 0] 26)).cell? ⟨w.heap.size, 0, none⟩ = some (.int .i64 t) ∧ (w4x.alloc (.cells #[.int .i64 0, .float .f64 0, .float .f64 0, .float .f64 0, .slice none 0 0] 26)).cell? ⟨w.heap.size, 1, none⟩ = some (.float .f64 v0) ∧ (w4x.alloc (.cells #[.int .i64 0, .float .f64 0, .float .f64 0, .float .f64 0, .slice none 0 0] 26)).cell? ⟨w.heap.size, 2, none⟩ = some (.float .f64 v1) ∧ (w4x.alloc (.cells #[.int .i64 0, .float .f64 0, .float .f64 0, .float .f64 0, .slice none 0 0] 26)).cell? ⟨w.heap.size, 3, none⟩ = some (.float .f64 v2) ∧ (w4x.alloc (.cells #[.int .i64 0, .float .f64 0, .float .f64 0, .float .f64 0, .slice none 0 0] 26)).cell? ⟨w.heap.size, 4, none⟩ = some (.slice A l.length c) from ⟨(HS2.out.alloc (.cells #[.int .i64 0, .float .f64 0, .float .f64 0, .float .f64 0, .slice none 0 0] 26)).box.cell 0, (HS2.out.alloc (.cells #[.int .i64 0, .float .f64 0, .float .f64 0, .float .f64 0, .slice none 0 0] 26)).box.cell 1, (HS2.out.alloc (.cells #[.int .i64 0, .float .f64 0, .float .f64 0, .float .f64 0, .slice none 0 0] 26)).box.cell 2, (HS2.out.alloc (.cells #[.int .i64 0, .float .f64 0, .float .f64 0, .float .f64 0, .slice none 0 0] 26)).box.cell 3, (HS2.out.alloc (.cells #[.int .i64 0, .float .f64 0, .float .f64 0, .float .f64 0, .slice none 0 0] 26)).box.cell 4⟩)
            clear hK K
            simp only [Act.put, List.setIfInBounds_toArray, List.set_cons_zero, List.set_cons_succ]
            have HS3 := Lib.hid (HS2.out.alloc (.cells #[.int .i64 0, .float .f64 0, .float .f64 0, .float .f64 0, .slice none 0 0] 26))
            have HB3 := Lib.hid (HB2.out.alloc HB2.out.size (.cells #[.int .i64 0, .float .f64 0, .float .f64 0, .float .f64 0, .slice none 0 0] 26))
            have HN3 : Hid (Blk (w4x.alloc (.cells #[.int .i64 0, .float .f64 0, .float .f64 0, .float .f64 0, .slice none 0 0] 26)) (w4x.heap.size) 26 #[.int .i64 0, .float .f64 0, .float .f64 0, .float .f64 0, .slice none 0 0]) := by
              have h := Blk.new w4x 26 #[.int .i64 0, .float .f64 0, .float .f64 0, .float .f64 0, .slice none 0 0]
              exact Lib.hid (by simpa using h)
            have HU3 := Lib.hid (HU1.out.alloc (.cells #[.int .i64 0, .float .f64 0, .float .f64 0, .float .f64 0, .slice none 0 0] 26))
            have HR3 := Lib.hid (HR2.out.alloc (.cells #[.int .i64 0, .float .f64 0, .float .f64 0, .float .f64 0, .slice none 0 0] 26))
            have NBB : Hid (W3d.heap.size ≤ w4x.heap.size) := Lib.hid HB2.out.size
            have NN : Hid (w.heap.size ≠ w4x.heap.size) := by
              have h1 := HSd.out.box.lt
              have h2 := NBB.out
              show w.heap.size ≠ w4x.heap.size
              omega
            refine held_store 10 rfl (by kernel_rfl) (by rfl) 26 (.tmp 3) (.tmp 28) rfl (w4x.heap.size) 26 #[.int .i64 0, .float .f64 0, .float .f64 0, .float .f64 0, .slice none 0 0] #[.int .i64 t, .float .f64 v0, .float .f64 v1, .float .f64 v2, .slice At l.length ct] rfl rfl HN3.out rfl szR (by simp [Value.oneCell']) ?_
            intro w9 hN1 hg1 hs1
            have HSF := Lib.hid (HS3.out.box.grown hg1 (by intro e; injection e with e; exact NN.out e))
            have HFI := Lib.hid (And.intro hN1 (And.intro (HB3.out.grown hg1 HB3.out.size (by intro k hk; cases hk; exact NBB.out)) (HR3.out.grown hg1 (.inr (HR3.out.ne_blk HN3.out (by decide)).symm))))
            clear hN1 hg1 hs1
            refine ⟨⟨HSF.out.cell 0, HSF.out.cell 1, HSF.out.cell 2, HSF.out.cell 3, HSF.out.cell 4⟩, ?_⟩
            simp only [Act.put, List.setIfInBounds_toArray]
            refine wpAnyH_done (by kernel_rfl) ?_ _
            clear hHeld
            go_wp2_with fail
            go_meet
            exact ⟨w4x.heap.size, At, ct, rfl, HFI.out.1, HFI.out.2.2.mono HB3d.out.size, below_rV HB3d.out HFI.out.2.1⟩
          · go_simp
            refine hK _ _ (⟨(HS1.out.alloc (.cells #[.int .i64 0, .float .f64 0, .float .f64 0, .float .f64 0, .slice none 0 0] 26)).box.cell 0, (HS1.out.alloc (.cells #[.int .i64 0, .float .f64 0, .float .f64 0, .float .f64 0, .slice none 0 0] 26)).box.cell 1, (HS1.out.alloc (.cells #[.int .i64 0, .float .f64 0, .float .f64 0, .float .f64 0, .slice none 0 0] 26)).box.cell 2, (HS1.out.alloc (.cells #[.int .i64 0, .float .f64 0, .float .f64 0, .float .f64 0, .slice none 0 0] 26)).box.cell 3, (HS1.out.alloc (.cells #[.int .i64 0, .float .f64 0, .float .f64 0, .float .f64 0, .slice none 0 0] 26)).box.cell 4⟩) ?_
            have hHeld := (show ((W3d.alloc (.cells #[] 47)).alloc (.cells #[.int .i64 0, .float .f64 0, .float .f64 0, .float .f64 0, .slice none 0 0] 26)).cell? ⟨w.heap.size, 0, none⟩ = some (.int .i64 t) ∧ ((W3d.alloc (.cells #[] 47)).alloc (.cells #[.int .i64 0, .float .f64 0, .float .f64 0, .float .f64 0, .slice none 0 0] 26)).cell? ⟨w.heap.size, 1, none⟩ = some (.float .f64 v0) ∧ ((W3d.alloc (.cells #[] 47)).alloc (.cells #[.int .i64 0, .float .f64 0, .float .f64 0, .float .f64 0, .slice none 0 0] 26)).cell? ⟨w.heap.size, 2, none⟩ = some (.float .f64 v1) ∧ ((W3d.alloc (.cells #[] 47)).alloc (.cells #[.int .i64 0, .float .f64 0, .float .f64 0, .float .f64 0, .slice none 0 0] 26)).cell? ⟨w.heap.size, 3, none⟩ = some (.float .f64 v2) ∧ ((W3d.alloc (.cells #[] 47)).alloc (.cells #[.int .i64 0, .float .f64 0, .float .f64 0, .float .f64 0, .slice none 0 0] 26)).cell? ⟨w.heap.size, 4, none⟩ = some (.slice A l.length c) from ⟨(HS1.out.alloc (.cells #[.int .i64 0, .float .f64 0, .float .f64 0, .float .f64 0, .slice none 0 0] 26)).box.cell 0, (HS1.out.alloc (.cells #[.int .i64 0, .float .f64 0, .float .f64 0, .float .f64 0, .slice none 0 0] 26)).box.cell 1, (HS1.out.alloc (.cells #[.int .i64 0, .float .f64 0, .float .f64 0, .float .f64 0, .slice none 0 0] 26)).box.cell 2, (HS1.out.alloc (.cells #[.int .i64 0, .float .f64 0, .float .f64 0, .float .f64 0, .slice none 0 0] 26)).box.cell 3, (HS1.out.alloc (.cells #[.int .i64 0, .float .f64 0, .float .f64 0, .float .f64 0, .slice none 0 0] 26)).box.cell 4⟩)
            clear hK K
            simp only [Act.put, List.setIfInBounds_toArray, List.set_cons_zero, List.set_cons_succ]
            have HS2 := Lib.hid (HS1.out.alloc (.cells #[.int .i64 0, .float .f64 0, .float .f64 0, .float .f64 0, .slice none 0 0] 26))
            have HB2 := Lib.hid (HB1.out.alloc HB1.out.size (.cells #[.int .i64 0, .float .f64 0, .float .f64 0, .float .f64 0, .slice none 0 0] 26))
            have HN2 : Hid (Blk ((W3d.alloc (.cells #[] 47)).alloc (.cells #[.int .i64 0, .float .f64 0, .float .f64 0, .float .f64 0, .slice none 0 0] 26)) (W3d.heap.size + 1) 26 #[.int .i64 0, .float .f64 0, .float .f64 0, .float .f64 0, .slice none 0 0]) := by
              have h := Blk.new (W3d.alloc (.cells #[] 47)) 26 #[.int .i64 0, .float .f64 0, .float .f64 0, .float .f64 0, .slice none 0 0]
              exact Lib.hid (by simpa using h)
            have HU2 := Lib.hid (HU1.out.alloc (.cells #[.int .i64 0, .float .f64 0, .float .f64 0, .float .f64 0, .slice none 0 0] 26))
            have HO2 := Lib.hid (HO1.out.alloc (.cells #[.int .i64 0, .float .f64 0, .float .f64 0, .float .f64 0, .slice none 0 0] 26))
            refine held_call 7 27 rfl rfl (by kernel_rfl) (by rfl) (fun K hK => ?_)
            refine wp_app _ elemG encG (.tmp 24) (.tmp 26) rfl W3d.heap.size _ [] (by simp [Act.eval]) HO2.out A l c (by simp [Act.eval]) HU2.out (by simp; omega) (by simp; omega) HB2.out.size ?_
            intro At ct w4x ho hg _
            rw [List.length_nil, Nat.zero_add, List.nil_append] at ho
            rw [List.length_nil, Nat.zero_add]
            have hb4 := HO2.out.belowGrown HB2.out hg (Nat.le_refl _) HB2.out.size
            have HR3 := Lib.hid ho
            have HB3 := Lib.hid hb4
            have HS3 := Lib.hid (HSd.out.below hb4)
            have HN3 := Lib.hid (HN2.out.grown hg (HO2.out.ne_blk HN2.out (by decide)))
            clear ho hg hb4
            refine hK _ _ (⟨(HS3.out).box.cell 0, (HS3.out).box.cell 1, (HS3.out).box.cell 2, (HS3.out).box.cell 3, (HS3.out).box.cell 4⟩) ?_
            have hHeld := (show w4x.cell? ⟨w.heap.size, 0, none⟩ = some (.int .i64 t) ∧ w4x.cell? ⟨w.heap.size, 1, none⟩ = some (.float .f64 v0) ∧ w4x.cell? ⟨w.heap.size, 2, none⟩ = some (.float .f64 v1) ∧ w4x.cell? ⟨w.heap.size, 3, none⟩ = some (.float .f64 v2) ∧ w4x.cell? ⟨w.heap.size, 4, none⟩ = some (.slice A l.length c) from ⟨(HS3.out).box.cell 0, (HS3.out).box.cell 1, (HS3.out).box.cell 2, (HS3.out).box.cell 3, (HS3.out).box.cell 4⟩)
            clear hK K
            simp only [Act.put, List.setIfInBounds_toArray, List.set_cons_zero, List.set_cons_succ]
            refine held_take 8 28 (.agg #[.int .i64 t, .float .f64 v0, .float .f64 v1, .float .f64 v2, .slice At l.length ct]) rfl rfl (by kernel_rfl) (by kernel_rfl) (by kernel_rfl) (fun _ _ _ h => h) (by rfl) (by intro w' hSw; (try dsimp only at hSw); go_simp; (try (with_reducible rfl))) (by assumption) ?_
            simp only [Act.put, List.setIfInBounds_toArray, List.set_cons_zero, List.set_cons_succ]
            have NBB : Hid (W3d.heap.size ≤ W3d.heap.size + 1) := Lib.hid (by have := HB1.out.size; simp at this; omega : W3d.heap.size ≤ W3d.heap.size + 1)
            have NN : Hid (w.heap.size ≠ W3d.heap.size + 1) := by
              have h1 := HSd.out.box.lt
              have h2 := NBB.out
              show w.heap.size ≠ W3d.heap.size + 1
              omega
            refine held_store 10 rfl (by kernel_rfl) (by rfl) 26 (.tmp 3) (.tmp 28) rfl (W3d.heap.size + 1) 26 #[.int .i64 0, .float .f64 0, .float .f64 0, .float .f64 0, .slice none 0 0] #[.int .i64 t, .float .f64 v0, .float .f64 v1, .float .f64 v2, .slice At l.length ct] rfl rfl HN3.out rfl szR (by simp [Value.oneCell']) ?_
            intro w9 hN1 hg1 hs1
            have HSF := Lib.hid (HS3.out.box.grown hg1 (by intro e; injection e with e; exact NN.out e))
            have HFI := Lib.hid (And.intro hN1 (And.intro (HB3.out.grown hg1 HB3.out.size (by intro k hk; cases hk; exact NBB.out)) (HR3.out.grown hg1 (.inr (HR3.out.ne_blk HN3.out (by decide)).symm))))
            clear hN1 hg1 hs1
            refine ⟨⟨HSF.out.cell 0, HSF.out.cell 1, HSF.out.cell 2, HSF.out.cell 3, HSF.out.cell 4⟩, ?_⟩
            simp only [Act.put, List.setIfInBounds_toArray]
            refine wpAnyH_done (by kernel_rfl) ?_ _
            clear hHeld
            go_wp2_with fail
            go_meet
            exact ⟨W3d.heap.size + 1, At, ct, rfl, HFI.out.1, HFI.out.2.2.mono HB3d.out.size, below_rV HB3d.out HFI.out.2.1⟩
        · go_simp
          refine hK _ _ (⟨(HSd.out.alloc (.cells #[.int .i64 0, .float .f64 0, .float .f64 0, .float .f64 0, .slice none 0 0] 26)).box.cell 0, (HSd.out.alloc (.cells #[.int .i64 0, .float .f64 0, .float .f64 0, .float .f64 0, .slice none 0 0] 26)).box.cell 1, (HSd.out.alloc (.cells #[.int .i64 0, .float .f64 0, .float .f64 0, .float .f64 0, .slice none 0 0] 26)).box.cell 2, (HSd.out.alloc (.cells #[.int .i64 0, .float .f64 0, .float .f64 0, .float .f64 0, .slice none 0 0] 26)).box.cell 3, (HSd.out.alloc (.cells #[.int .i64 0, .float .f64 0, .float .f64 0, .float .f64 0, .slice none 0 0] 26)).box.cell 4⟩) ?_
          have hHeld := (show (W3d.alloc (.cells #[.int .i64 0, .float .f64 0, .float .f64 0, .float .f64 0, .slice none 0 0] 26)).cell? ⟨w.heap.size, 0, none⟩ = some (.int .i64 t) ∧ (W3d.alloc (.cells #[.int .i64 0, .float .f64 0, .float .f64 0, .float .f64 0, .slice none 0 0] 26)).cell? ⟨w.heap.size, 1, none⟩ = some (.float .f64 v0) ∧ (W3d.alloc (.cells #[.int .i64 0, .float .f64 0, .float .f64 0, .float .f64 0, .slice none 0 0] 26)).cell? ⟨w.heap.size, 2, none⟩ = some (.float .f64 v1) ∧ (W3d.alloc (.cells #[.int .i64 0, .float .f64 0, .float .f64 0, .float .f64 0, .slice none 0 0] 26)).cell? ⟨w.heap.size, 3, none⟩ = some (.float .f64 v2) ∧ (W3d.alloc (.cells #[.int .i64 0, .float .f64 0, .float .f64 0, .float .f64 0, .slice none 0 0] 26)).cell? ⟨w.heap.size, 4, none⟩ = some (.slice A l.length c) from ⟨(HSd.out.alloc (.cells #[.int .i64 0, .float .f64 0, .float .f64 0, .float .f64 0, .slice none 0 0] 26)).box.cell 0, (HSd.out.alloc (.cells #[.int .i64 0, .float .f64 0, .float .f64 0, .float .f64 0, .slice none 0 0] 26)).box.cell 1, (HSd.out.alloc (.cells #[.int .i64 0, .float .f64 0, .float .f64 0, .float .f64 0, .slice none 0 0] 26)).box.cell 2, (HSd.out.alloc (.cells #[.int .i64 0, .float .f64 0, .float .f64 0, .float .f64 0, .slice none 0 0] 26)).box.cell 3, (HSd.out.alloc (.cells #[.int .i64 0, .float .f64 0, .float .f64 0, .float .f64 0, .slice none 0 0] 26)).box.cell 4⟩)
          clear hK K
          simp only [Act.put, List.setIfInBounds_toArray, List.set_cons_zero, List.set_cons_succ]
          have HS1 := Lib.hid (HSd.out.alloc (.cells #[.int .i64 0, .float .f64 0, .float .f64 0, .float .f64 0, .slice none 0 0] 26))
          have HB1 := Lib.hid (HB0.out.alloc HB0.out.size (.cells #[.int .i64 0, .float .f64 0, .float .f64 0, .float .f64 0, .slice none 0 0] 26))
          have HN1 : Hid (Blk (W3d.alloc (.cells #[.int .i64 0, .float .f64 0, .float .f64 0, .float .f64 0, .slice none 0 0] 26)) (W3d.heap.size) 26 #[.int .i64 0, .float .f64 0, .float .f64 0, .float .f64 0, .slice none 0 0]) := by
            have h := Blk.new W3d 26 #[.int .i64 0, .float .f64 0, .float .f64 0, .float .f64 0, .slice none 0 0]
            exact Lib.hid (by simpa using h)
          have HU1 := Lib.hid (HU0.out.alloc (.cells #[.int .i64 0, .float .f64 0, .float .f64 0, .float .f64 0, .slice none 0 0] 26))
          refine held_call 4 24 rfl rfl (by kernel_rfl) (by rfl) (fun K hK => ?_)
          go_simp
          refine hK _ _ (⟨(HS1.out.alloc (.cells #[] 47)).box.cell 0, (HS1.out.alloc (.cells #[] 47)).box.cell 1, (HS1.out.alloc (.cells #[] 47)).box.cell 2, (HS1.out.alloc (.cells #[] 47)).box.cell 3, (HS1.out.alloc (.cells #[] 47)).box.cell 4⟩) ?_
          have hHeld := (show ((W3d.alloc (.cells #[.int .i64 0, .float .f64 0, .float .f64 0, .float .f64 0, .slice none 0 0] 26)).alloc (.cells #[] 47)).cell? ⟨w.heap.size, 0, none⟩ = some (.int .i64 t) ∧ ((W3d.alloc (.cells #[.int .i64 0, .float .f64 0, .float .f64 0, .float .f64 0, .slice none 0 0] 26)).alloc (.cells #[] 47)).cell? ⟨w.heap.size, 1, none⟩ = some (.float .f64 v0) ∧ ((W3d.alloc (.cells #[.int .i64 0, .float .f64 0, .float .f64 0, .float .f64 0, .slice none 0 0] 26)).alloc (.cells #[] 47)).cell? ⟨w.heap.size, 2, none⟩ = some (.float .f64 v1) ∧ ((W3d.alloc (.cells #[.int .i64 0, .float .f64 0, .float .f64 0, .float .f64 0, .slice none 0 0] 26)).alloc (.cells #[] 47)).cell? ⟨w.heap.size, 3, none⟩ = some (.float .f64 v2) ∧ ((W3d.alloc (.cells #[.int .i64 0, .float .f64 0, .float .f64 0, .float .f64 0, .slice none 0 0] 26)).alloc (.cells #[] 47)).cell? ⟨w.heap.size, 4, none⟩ = some (.slice A l.length c) from ⟨(HS1.out.alloc (.cells #[] 47)).box.cell 0, (HS1.out.alloc (.cells #[] 47)).box.cell 1, (HS1.out.alloc (.cells #[] 47)).box.cell 2, (HS1.out.alloc (.cells #[] 47)).box.cell 3, (HS1.out.alloc (.cells #[] 47)).box.cell 4⟩)
          clear hK K
          simp only [Act.put, List.setIfInBounds_toArray, List.set_cons_zero, List.set_cons_succ]
          have HS2 := Lib.hid (HS1.out.alloc (.cells #[] 47))
          have HB2 := Lib.hid (HB1.out.alloc HB1.out.size (.cells #[] 47))
          have HO2 := Lib.hid (Own.made (W3d.alloc (.cells #[.int .i64 0, .float .f64 0, .float .f64 0, .float .f64 0, .slice none 0 0] 26)) W3d.heap.size 47 encG [] #[] rfl HB1.out.size (by simp))
          have HU2 := Lib.hid (HU1.out.alloc (.cells #[] 47))
          have HN2 := Lib.hid (HN1.out.alloc (.cells #[] 47))
          refine held_call 7 27 rfl rfl (by kernel_rfl) (by rfl) (fun K hK => ?_)
          refine wp_app _ elemG encG (.tmp 24) (.tmp 26) rfl W3d.heap.size _ [] (by simp [Act.eval]) HO2.out A l c (by simp [Act.eval]) HU2.out (by simp; omega) (by simp; omega) HB2.out.size ?_
          intro At ct w4x ho hg _
          rw [List.length_nil, Nat.zero_add, List.nil_append] at ho
          rw [List.length_nil, Nat.zero_add]
          have hb4 := HO2.out.belowGrown HB2.out hg (Nat.le_refl _) HB2.out.size
          have HR3 := Lib.hid ho
          have HB3 := Lib.hid hb4
          have HS3 := Lib.hid (HSd.out.below hb4)
          have HN3 := Lib.hid (HN2.out.grown hg (HO2.out.ne_blk HN2.out (by decide)))
          clear ho hg hb4
          refine hK _ _ (⟨(HS3.out).box.cell 0, (HS3.out).box.cell 1, (HS3.out).box.cell 2, (HS3.out).box.cell 3, (HS3.out).box.cell 4⟩) ?_
          have hHeld := (show w4x.cell? ⟨w.heap.size, 0, none⟩ = some (.int .i64 t) ∧ w4x.cell? ⟨w.heap.size, 1, none⟩ = some (.float .f64 v0) ∧ w4x.cell? ⟨w.heap.size, 2, none⟩ = some (.float .f64 v1) ∧ w4x.cell? ⟨w.heap.size, 3, none⟩ = some (.float .f64 v2) ∧ w4x.cell? ⟨w.heap.size, 4, none⟩ = some (.slice A l.length c) from ⟨(HS3.out).box.cell 0, (HS3.out).box.cell 1, (HS3.out).box.cell 2, (HS3.out).box.cell 3, (HS3.out).box.cell 4⟩)
          clear hK K
          simp only [Act.put, List.setIfInBounds_toArray, List.set_cons_zero, List.set_cons_succ]
          refine held_take 8 28 (.agg #[.int .i64 t, .float .f64 v0, .float .f64 v1, .float .f64 v2, .slice At l.length ct]) rfl rfl (by kernel_rfl) (by kernel_rfl) (by kernel_rfl) (fun _ _ _ h => h) (by rfl) (by intro w' hSw; (try dsimp only at hSw); go_simp; (try (with_reducible rfl))) (by assumption) ?_
          simp only [Act.put, List.setIfInBounds_toArray, List.set_cons_zero, List.set_cons_succ]
          have NBB : Hid (W3d.heap.size ≤ W3d.heap.size) := Lib.hid HB0.out.size
          have NN : Hid (w.heap.size ≠ W3d.heap.size) := by
            have h1 := HSd.out.box.lt
            have h2 := NBB.out
            show w.heap.size ≠ W3d.heap.size
            omega
          refine held_store 10 rfl (by kernel_rfl) (by rfl) 26 (.tmp 3) (.tmp 28) rfl (W3d.heap.size) 26 #[.int .i64 0, .float .f64 0, .float .f64 0, .float .f64 0, .slice none 0 0] #[.int .i64 t, .float .f64 v0, .float .f64 v1, .float .f64 v2, .slice At l.length ct] rfl rfl HN3.out rfl szR (by simp [Value.oneCell']) ?_
          intro w9 hN1 hg1 hs1
          have HSF := Lib.hid (HS3.out.box.grown hg1 (by intro e; injection e with e; exact NN.out e))
          have HFI := Lib.hid (And.intro hN1 (And.intro (HB3.out.grown hg1 HB3.out.size (by intro k hk; cases hk; exact NBB.out)) (HR3.out.grown hg1 (.inr (HR3.out.ne_blk HN3.out (by decide)).symm))))
          clear hN1 hg1 hs1
          refine ⟨⟨HSF.out.cell 0, HSF.out.cell 1, HSF.out.cell 2, HSF.out.cell 3, HSF.out.cell 4⟩, ?_⟩
          simp only [Act.put, List.setIfInBounds_toArray]
          refine wpAnyH_done (by kernel_rfl) ?_ _
          clear hHeld
          go_wp2_with fail
          go_meet
          exact ⟨W3d.heap.size, At, ct, rfl, HFI.out.1, HFI.out.2.2.mono HB3d.out.size, below_rV HB3d.out HFI.out.2.1⟩
      case rest =>
        obtain ⟨N, At, ct, rfl, hbn, hoz, hbc⟩ := hcut
        have HLW := Lib.hid HQ.out.box.lt
        have HS6 := Lib.hid hbc.size
        have HN := Lib.hid hbn
        have HZ := Lib.hid hoz
        have HQ := Lib.hid (HQ.out.below hbc)
        clear hbn hoz hbc
        obtain ⟨x0, x1, x2, HX3⟩ : ∃ x y z, Hid (readN v0 = x ∧ readN v1 = y ∧ readN v2 = z) := ⟨_, _, _, ⟨rfl, rfl, rfl⟩⟩
        have hll : (readUses l).length ≤ 140 := by rw [readUses_len]; exact hl140
        have HRD := Lib.hid (fun W hw => read17_walk (t := t) (c := c) (A := A) W hw HRT.out.len HX3.out.1 HX3.out.2.1 HX3.out.2.2)
        have HWN := Lib.hid (fun (W : World) (h : Rds W encG At l) => sk_wf (At := At) (ct := ct) HWF.out h HZ.out.cap2)
        have HRN : Hid (RightR ⟨t, v0, v1, v2, At, l, ct⟩) := ⟨HRT.out.len, HRT.out.k, HRT.out.ok⟩
        have cn := HN.out.cell
        go_wp2_with fail
        refine (sread_walk _ ⟨fun _ => HRN.out, fun _ => rfl⟩ (HWN.out _ HZ.out.toRds) HX3.out.1 HX3.out.2.1 HX3.out.2.2).mono ?_; rintro e w6 ⟨A1, c1, rfl, ho, hb⟩
        have HRL := Lib.hid (show readUses l = readUses l from rfl)
        generalize readUses l = L at *
        have HO := Lib.hid ho
        have HSZ := Lib.hid (fun g (hg : At = some ⟨g, 0, none⟩) => (HZ.out.block_lt g (by rw [hg]; rfl)).2)
        have HQ := Lib.hid (HQ.out.below hb)
        have HN := Lib.hid (HN.out.belowAll hb)
        have HZ := Lib.hid (HZ.out.below hb (Nat.le_refl _))
        have HN0 := Lib.hid (Blk.new w6 32 #[.int .i64 0, .int .i64 0, .int .i64 0, .int .i64 0, .slice none 0 0])
        clear ho hb cn
        go_wp2_with (refine wl_store_blk rfl 32 (.tmp 4) (.tmp 32) rfl w6.heap.size 32 #[.int .i64 0, .int .i64 0, .int .i64 0, .int .i64 0, .slice none 0 0] #[.int .i64 t, .int .i64 x0, .int .i64 x1, .int .i64 x2, .slice A1 L.length c1] rfl rfl HN0.out rfl szS (by simp [Value.oneCell']) ?_; intro w7 hN1 hg1 hs1; have HS4 := Lib.hid hN1; have HBF := Lib.hid (below_fresh hg1); have HQ := Lib.hid (HQ.out.below HBF.out); have HN := Lib.hid (HN.out.belowAll HBF.out); have HZ := Lib.hid (HZ.out.below HBF.out (Nat.le_refl _)); have HO := Lib.hid (HO.out.below HBF.out (Nat.le_refl _)); clear hN1 hg1 hs1)
        obtain ⟨b0, hkk⟩ : ∃ b0, SK t x0 x1 x2 v0 v1 v2 A l c N At ct w6.heap.size A1 c1 L w5.heap.size b0 l w w7 ∧ (∀ g, At = some ⟨g, 0, none⟩ → g < b0) := ⟨_, ⟨HQ.out, HN.out, HS4.out, HZ.out, HO.out, HLW.out⟩, HSZ.out⟩
        have HKK := Lib.hid hkk.1
        have HG := Lib.hid hkk.2
        clear hkk HQ HN HS4 HZ HO HN0 HBF HSZ HLW HS6
        generalize w6.heap.size = n4 at *
        generalize w5.heap.size = n5 at *
        go_loopw [6] (fun ii wr => ∃ i : Nat, i ≤ l.length ∧ ii = .int .i64 i ∧ SK t x0 x1 x2 v0 v1 v2 A l c N At ct n4 A1 c1 L n5 b0 (gTo l i) w wr) (fun ii _ => l.length - (intOf ii).toNat)
        case atStart => exact ⟨0, by omega, rfl, by rw [gTo_zero]; exact HKK.out⟩
        case round =>
          clear HKK
          obtain ⟨i, hi, rfl, hk⟩ := hrel
          have HKK := Lib.hid hk
          clear hk
          have cn : ∀ j, wr.cell? ⟨N, j, none⟩ = (#[.int .i64 t, .float .f64 v0, .float .f64 v1, .float .f64 v2, .slice At l.length ct] : Array Value)[j]? := HKK.out.n.cell
          by_cases hlt : i < l.length
          · have dk : decide ((i : Int) < (l.length : Int)) = true := decide_eq_true (by omega)
            have dk2 : (i : Int) < (l.length : Int) := by omega
            have hzl := gTo_len l i hi
            have HZ2 : Hid (Own wr n5 47 encG (.slice At (gTo l i).length ct) (gTo l i)) := by show Own _ _ _ _ _ _; rw [hzl]; exact HKK.out.z
            obtain ⟨gz, hg, hjk2⟩ := own_some HZ2.out (by intro e; rw [e] at hzl; simp at hzl; omega)
            obtain rfl : At = some ⟨gz, 0, none⟩ := hg
            clear hjk2
            have HGG := Lib.hid (HG.out gz rfl)
            obtain ⟨bb, off, hA, hjk⟩ := (HWF.out.rds).ug hlt
            clear hjk
            obtain rfl : A = some ⟨bb, off, none⟩ := hA
            have HXI := Lib.hid (List.getElem?_eq_getElem hlt)
            have HZI := Lib.hid (gTo_at l i hlt)
            have HZS := Lib.hid (gTo_set l i hlt)
            have HGW := Lib.hid (show l[i].f0 < 18446744073709551616 ∧ l[i].f1 < 18446744073709551616 ∧ l[i].f2 < 18446744073709551616 from ⟨(HWF.out.us _ (List.getElem_mem hlt)).h0, (HWF.out.us _ (List.getElem_mem hlt)).h1, (HWF.out.us _ (List.getElem_mem hlt)).h2⟩)
            generalize l[i] = g at *
            obtain ⟨r0, r1, r2, HRG⟩ : ∃ x y z, Hid (readN g.f0 = x ∧ readN g.f1 = y ∧ readN g.f2 = z) := ⟨_, _, _, ⟨rfl, rfl, rfl⟩⟩
            have HMEM : Hid (∀ W, Below wr.heap.size wr W → W.cell? ⟨w.heap.size, 4, none⟩ = some (.slice (some ⟨bb, off, none⟩) l.length c) ∧ W.cell? ⟨N, 4, none⟩ = some (.slice (some ⟨gz, 0, none⟩) l.length ct) ∧ W.cell? ⟨bb, off + i * 4, none⟩ = some (.string g.id) ∧ W.cell? ⟨bb, off + i * 4 + 1, none⟩ = some (.float .f64 g.f0) ∧ W.cell? ⟨bb, off + i * 4 + 2, none⟩ = some (.float .f64 g.f1) ∧ W.cell? ⟨bb, off + i * 4 + 3, none⟩ = some (.float .f64 g.f2) ∧ W.cell? ⟨gz, i * 4, none⟩ = some (.string g.id) ∧ W.cell? ⟨gz, i * 4 + 1, none⟩ = some (.float .f64 g.f0) ∧ W.cell? ⟨gz, i * 4 + 2, none⟩ = some (.float .f64 g.f1) ∧ W.cell? ⟨gz, i * 4 + 3, none⟩ = some (.float .f64 g.f2)) := Lib.hid (fun W hb => by
              have hk := HKK.out
              have hq := hk.q.below hb
              have hn := hk.n.belowAll hb
              obtain ⟨a0, a1, a2, a3⟩ := ug_cells (hk.q.rds.below hb) HXI.out
              obtain ⟨z0, z1, z2, z3⟩ := ug_cells (HZ2.out.toRds.below hb) HZI.out
              simp only [Nat.zero_add] at z0 z1 z2 z3
              exact ⟨hq.box.cell 4, hn.cell 4, a0, a1, a2, a3, z0, z1, z2, z3⟩)
            go_wp2_with fail
            have HB8 := Lib.hid (show Below wr.heap.size wr wr.drew from (Below.refl _ _).drew)
            refine wp_region_held_drew (S := (fun w' => w'.cell? ⟨w.heap.size, 4, none⟩ = some (.slice (some ⟨bb, off, none⟩) l.length c) ∧ w'.cell? ⟨N, 4, none⟩ = some (.slice (some ⟨gz, 0, none⟩) l.length ct) ∧ w'.cell? ⟨bb, off + i * 4, none⟩ = some (.string g.id) ∧ w'.cell? ⟨bb, off + i * 4 + 1, none⟩ = some (.float .f64 g.f0) ∧ w'.cell? ⟨bb, off + i * 4 + 2, none⟩ = some (.float .f64 g.f1) ∧ w'.cell? ⟨bb, off + i * 4 + 3, none⟩ = some (.float .f64 g.f2) ∧ w'.cell? ⟨gz, i * 4, none⟩ = some (.string g.id) ∧ w'.cell? ⟨gz, i * 4 + 1, none⟩ = some (.float .f64 g.f0) ∧ w'.cell? ⟨gz, i * 4 + 2, none⟩ = some (.float .f64 g.f1) ∧ w'.cell? ⟨gz, i * 4 + 3, none⟩ = some (.float .f64 g.f2))) (by kernel_rfl) (HMEM.out _ HB8.out) (fun hHeld => ?_)
            refine held_take 0 41 (.pointer (some ⟨N, 4, none⟩)) rfl rfl (by kernel_rfl) (by kernel_rfl) (by kernel_rfl) (fun _ _ _ h => h) (by rfl) (by intro w' hSw; (try dsimp only at hSw); go_simp; (try (with_reducible rfl))) (by assumption) ?_
            simp only [Act.put, List.setIfInBounds_toArray, List.set_cons_zero, List.set_cons_succ]
            refine held_take 1 42 (.slice (some ⟨gz, 0, none⟩) l.length ct) rfl rfl (by kernel_rfl) (by kernel_rfl) (by kernel_rfl) (fun _ _ _ h => h) (by rfl) (by intro w' hSw; (try dsimp only at hSw); go_simp; (try (with_reducible rfl))) (by assumption) ?_
            simp only [Act.put, List.setIfInBounds_toArray, List.set_cons_zero, List.set_cons_succ]
            refine held_take 2 43 (.int .i64 i) rfl rfl (by kernel_rfl) (by kernel_rfl) (by kernel_rfl) (fun _ _ _ h => h) (by rfl) (by intro w' hSw; (try dsimp only at hSw); go_simp; (try (with_reducible rfl))) (by assumption) ?_
            simp only [Act.put, List.setIfInBounds_toArray, List.set_cons_zero, List.set_cons_succ]
            refine held_take 3 44 (.pointer (some ⟨gz, i * 4, none⟩)) rfl rfl (by kernel_rfl) (by kernel_rfl) (by kernel_rfl) (fun _ _ _ h => h) (by rfl) (by intro w' hSw; (try dsimp only at hSw); go_simp; (try (with_reducible rfl))) (by assumption) ?_
            simp only [Act.put, List.setIfInBounds_toArray, List.set_cons_zero, List.set_cons_succ]
            refine held_take 4 45 (.pointer (some ⟨gz, i * 4, none⟩)) rfl rfl (by kernel_rfl) (by kernel_rfl) (by kernel_rfl) (fun _ _ _ h => h) (by rfl) (by intro w' hSw; (try dsimp only at hSw); go_simp; (try (with_reducible rfl))) (by assumption) ?_
            simp only [Act.put, List.setIfInBounds_toArray, List.set_cons_zero, List.set_cons_succ]
            refine held_take 5 46 (.string g.id) rfl rfl (by kernel_rfl) (by kernel_rfl) (by kernel_rfl) (fun _ _ _ h => h) (by rfl) (by intro w' hSw; (try dsimp only at hSw); go_simp; (try (with_reducible rfl))) (by assumption) ?_
            simp only [Act.put, List.setIfInBounds_toArray, List.set_cons_zero, List.set_cons_succ]
            refine held_take 6 47 (.pointer (some ⟨w.heap.size, 4, none⟩)) rfl rfl (by kernel_rfl) (by kernel_rfl) (by kernel_rfl) (fun _ _ _ h => h) (by rfl) (by intro w' hSw; (try dsimp only at hSw); go_simp; (try (with_reducible rfl))) (by assumption) ?_
            simp only [Act.put, List.setIfInBounds_toArray, List.set_cons_zero, List.set_cons_succ]
            refine held_take 7 48 (.slice (some ⟨bb, off, none⟩) l.length c) rfl rfl (by kernel_rfl) (by kernel_rfl) (by kernel_rfl) (fun _ _ _ h => h) (by rfl) (by intro w' hSw; (try dsimp only at hSw); go_simp; (try (with_reducible rfl))) (by assumption) ?_
            simp only [Act.put, List.setIfInBounds_toArray, List.set_cons_zero, List.set_cons_succ]
            refine held_take 8 49 (.int .i64 i) rfl rfl (by kernel_rfl) (by kernel_rfl) (by kernel_rfl) (fun _ _ _ h => h) (by rfl) (by intro w' hSw; (try dsimp only at hSw); go_simp; (try (with_reducible rfl))) (by assumption) ?_
            simp only [Act.put, List.setIfInBounds_toArray, List.set_cons_zero, List.set_cons_succ]
            refine held_take 9 50 (.pointer (some ⟨bb, off + i * 4, none⟩)) rfl rfl (by kernel_rfl) (by kernel_rfl) (by kernel_rfl) (fun _ _ _ h => h) (by rfl) (by intro w' hSw; (try dsimp only at hSw); go_simp; (try (with_reducible rfl))) (by assumption) ?_
            simp only [Act.put, List.setIfInBounds_toArray, List.set_cons_zero, List.set_cons_succ]
            refine held_take 10 51 (.pointer (some ⟨bb, off + i * 4, none⟩)) rfl rfl (by kernel_rfl) (by kernel_rfl) (by kernel_rfl) (fun _ _ _ h => h) (by rfl) (by intro w' hSw; (try dsimp only at hSw); go_simp; (try (with_reducible rfl))) (by assumption) ?_
            simp only [Act.put, List.setIfInBounds_toArray, List.set_cons_zero, List.set_cons_succ]
            refine held_take 11 52 (.string g.id) rfl rfl (by kernel_rfl) (by kernel_rfl) (by kernel_rfl) (fun _ _ _ h => h) (by rfl) (by intro w' hSw; (try dsimp only at hSw); go_simp; (try (with_reducible rfl))) (by assumption) ?_
            simp only [Act.put, List.setIfInBounds_toArray, List.set_cons_zero, List.set_cons_succ]
            refine held_take 12 53 (.bool false) rfl rfl (by kernel_rfl) (by kernel_rfl) (by kernel_rfl) (fun _ _ _ h => h) (by rfl) (by intro w' hSw; (try dsimp only at hSw); go_simp; (first | done | with_reducible rfl | (simp; done))) (by assumption) ?_
            simp only [Act.put, List.setIfInBounds_toArray, List.set_cons_zero, List.set_cons_succ]
            refine held_take 13 54 (.bool false) rfl rfl (by kernel_rfl) (by kernel_rfl) (by kernel_rfl) (fun _ _ _ h => h) (by rfl) (by intro w' hSw; (try dsimp only at hSw); go_simp; (try (with_reducible rfl))) (by assumption) ?_
            simp only [Act.put, List.setIfInBounds_toArray, List.set_cons_zero, List.set_cons_succ]
            refine held_take 14 55 (.pointer (some ⟨N, 4, none⟩)) rfl rfl (by kernel_rfl) (by kernel_rfl) (by kernel_rfl) (fun _ _ _ h => h) (by rfl) (by intro w' hSw; (try dsimp only at hSw); go_simp; (try (with_reducible rfl))) (by assumption) ?_
            simp only [Act.put, List.setIfInBounds_toArray, List.set_cons_zero, List.set_cons_succ]
            refine held_take 15 56 (.slice (some ⟨gz, 0, none⟩) l.length ct) rfl rfl (by kernel_rfl) (by kernel_rfl) (by kernel_rfl) (fun _ _ _ h => h) (by rfl) (by intro w' hSw; (try dsimp only at hSw); go_simp; (try (with_reducible rfl))) (by assumption) ?_
            simp only [Act.put, List.setIfInBounds_toArray, List.set_cons_zero, List.set_cons_succ]
            refine held_take 16 57 (.int .i64 i) rfl rfl (by kernel_rfl) (by kernel_rfl) (by kernel_rfl) (fun _ _ _ h => h) (by rfl) (by intro w' hSw; (try dsimp only at hSw); go_simp; (try (with_reducible rfl))) (by assumption) ?_
            simp only [Act.put, List.setIfInBounds_toArray, List.set_cons_zero, List.set_cons_succ]
            refine held_take 17 58 (.pointer (some ⟨gz, i * 4, none⟩)) rfl rfl (by kernel_rfl) (by kernel_rfl) (by kernel_rfl) (fun _ _ _ h => h) (by rfl) (by intro w' hSw; (try dsimp only at hSw); go_simp; (try (with_reducible rfl))) (by assumption) ?_
            simp only [Act.put, List.setIfInBounds_toArray, List.set_cons_zero, List.set_cons_succ]
            refine held_take 18 59 (.pointer (some ⟨gz, i * 4 + 1, none⟩)) rfl rfl (by kernel_rfl) (by kernel_rfl) (by kernel_rfl) (fun _ _ _ h => h) (by rfl) (by intro w' hSw; (try dsimp only at hSw); go_simp; (try (with_reducible rfl))) (by assumption) ?_
            simp only [Act.put, List.setIfInBounds_toArray, List.set_cons_zero, List.set_cons_succ]
            refine held_take 19 60 (.agg #[.float .f64 g.f0, .float .f64 g.f1, .float .f64 g.f2]) rfl rfl (by kernel_rfl) (by kernel_rfl) (by kernel_rfl) (fun _ _ _ h => h) (by rfl) (by intro w' hSw; (try dsimp only at hSw); go_simp; (try (with_reducible rfl))) (by assumption) ?_
            simp only [Act.put, List.setIfInBounds_toArray, List.set_cons_zero, List.set_cons_succ]
            refine held_take 21 62 (.pointer (some ⟨w.heap.size, 4, none⟩)) rfl rfl (by kernel_rfl) (by kernel_rfl) (by kernel_rfl) (fun _ _ _ h => h) (by rfl) (by intro w' hSw; (try dsimp only at hSw); go_simp; (try (with_reducible rfl))) (by assumption) ?_
            simp only [Act.put, List.setIfInBounds_toArray, List.set_cons_zero, List.set_cons_succ]
            refine held_take 22 63 (.slice (some ⟨bb, off, none⟩) l.length c) rfl rfl (by kernel_rfl) (by kernel_rfl) (by kernel_rfl) (fun _ _ _ h => h) (by rfl) (by intro w' hSw; (try dsimp only at hSw); go_simp; (try (with_reducible rfl))) (by assumption) ?_
            simp only [Act.put, List.setIfInBounds_toArray, List.set_cons_zero, List.set_cons_succ]
            refine held_take 23 64 (.int .i64 i) rfl rfl (by kernel_rfl) (by kernel_rfl) (by kernel_rfl) (fun _ _ _ h => h) (by rfl) (by intro w' hSw; (try dsimp only at hSw); go_simp; (try (with_reducible rfl))) (by assumption) ?_
            simp only [Act.put, List.setIfInBounds_toArray, List.set_cons_zero, List.set_cons_succ]
            refine held_take 24 65 (.pointer (some ⟨bb, off + i * 4, none⟩)) rfl rfl (by kernel_rfl) (by kernel_rfl) (by kernel_rfl) (fun _ _ _ h => h) (by rfl) (by intro w' hSw; (try dsimp only at hSw); go_simp; (try (with_reducible rfl))) (by assumption) ?_
            simp only [Act.put, List.setIfInBounds_toArray, List.set_cons_zero, List.set_cons_succ]
            refine held_take 25 66 (.pointer (some ⟨bb, off + i * 4 + 1, none⟩)) rfl rfl (by kernel_rfl) (by kernel_rfl) (by kernel_rfl) (fun _ _ _ h => h) (by rfl) (by intro w' hSw; (try dsimp only at hSw); go_simp; (try (with_reducible rfl))) (by assumption) ?_
            simp only [Act.put, List.setIfInBounds_toArray, List.set_cons_zero, List.set_cons_succ]
            refine held_take 26 67 (.agg #[.float .f64 g.f0, .float .f64 g.f1, .float .f64 g.f2]) rfl rfl (by kernel_rfl) (by kernel_rfl) (by kernel_rfl) (fun _ _ _ h => h) (by rfl) (by intro w' hSw; (try dsimp only at hSw); go_simp; (try (with_reducible rfl))) (by assumption) ?_
            simp only [Act.put, List.setIfInBounds_toArray, List.set_cons_zero, List.set_cons_succ]
            refine held_call 20 61 rfl rfl (by kernel_rfl) (by rfl) (fun K hK => ?_)
            go_simp
            go_at_call 24; (with_reducible refine (wholeX3 HGW.out HRG.out _).mono ?_); rintro x wq ⟨rfl, hb⟩
            have HB8 := Lib.hid (below_rV HB8.out hb)
            clear hb
            refine hK _ _ (HMEM.out _ HB8.out) ?_
            have hHeld := (show wq.cell? ⟨w.heap.size, 4, none⟩ = some (.slice (some ⟨bb, off, none⟩) l.length c) ∧ wq.cell? ⟨N, 4, none⟩ = some (.slice (some ⟨gz, 0, none⟩) l.length ct) ∧ wq.cell? ⟨bb, off + i * 4, none⟩ = some (.string g.id) ∧ wq.cell? ⟨bb, off + i * 4 + 1, none⟩ = some (.float .f64 g.f0) ∧ wq.cell? ⟨bb, off + i * 4 + 2, none⟩ = some (.float .f64 g.f1) ∧ wq.cell? ⟨bb, off + i * 4 + 3, none⟩ = some (.float .f64 g.f2) ∧ wq.cell? ⟨gz, i * 4, none⟩ = some (.string g.id) ∧ wq.cell? ⟨gz, i * 4 + 1, none⟩ = some (.float .f64 g.f0) ∧ wq.cell? ⟨gz, i * 4 + 2, none⟩ = some (.float .f64 g.f1) ∧ wq.cell? ⟨gz, i * 4 + 3, none⟩ = some (.float .f64 g.f2) from HMEM.out _ HB8.out)
            clear hK K
            simp only [Act.put, List.setIfInBounds_toArray, List.set_cons_zero, List.set_cons_succ]
            refine held_call 27 68 rfl rfl (by kernel_rfl) (by rfl) (fun K hK => ?_)
            go_simp
            go_at_call 24; (with_reducible refine (wholeX3 HGW.out HRG.out _).mono ?_); rintro x wq ⟨rfl, hb⟩
            have HB8 := Lib.hid (below_rV HB8.out hb)
            clear hb
            refine hK _ _ (HMEM.out _ HB8.out) ?_
            have hHeld := (show wq.cell? ⟨w.heap.size, 4, none⟩ = some (.slice (some ⟨bb, off, none⟩) l.length c) ∧ wq.cell? ⟨N, 4, none⟩ = some (.slice (some ⟨gz, 0, none⟩) l.length ct) ∧ wq.cell? ⟨bb, off + i * 4, none⟩ = some (.string g.id) ∧ wq.cell? ⟨bb, off + i * 4 + 1, none⟩ = some (.float .f64 g.f0) ∧ wq.cell? ⟨bb, off + i * 4 + 2, none⟩ = some (.float .f64 g.f1) ∧ wq.cell? ⟨bb, off + i * 4 + 3, none⟩ = some (.float .f64 g.f2) ∧ wq.cell? ⟨gz, i * 4, none⟩ = some (.string g.id) ∧ wq.cell? ⟨gz, i * 4 + 1, none⟩ = some (.float .f64 g.f0) ∧ wq.cell? ⟨gz, i * 4 + 2, none⟩ = some (.float .f64 g.f1) ∧ wq.cell? ⟨gz, i * 4 + 3, none⟩ = some (.float .f64 g.f2) from HMEM.out _ HB8.out)
            clear hK K
            simp only [Act.put, List.setIfInBounds_toArray, List.set_cons_zero, List.set_cons_succ]
            refine held_take 28 69 (.bool false) rfl rfl (by kernel_rfl) (by kernel_rfl) (by kernel_rfl) (fun _ _ _ h => h) (by rfl) (by intro w' hSw; (try dsimp only at hSw); go_simp; (first | done | with_reducible rfl | (simp; done))) (by assumption) ?_
            simp only [Act.put, List.setIfInBounds_toArray, List.set_cons_zero, List.set_cons_succ]
            refine held_take 29 70 (.bool false) rfl rfl (by kernel_rfl) (by kernel_rfl) (by kernel_rfl) (fun _ _ _ h => h) (by rfl) (by intro w' hSw; (try dsimp only at hSw); go_simp; (try (with_reducible rfl))) (by assumption) ?_
            simp only [Act.put, List.setIfInBounds_toArray, List.set_cons_zero, List.set_cons_succ]
            refine wpAnyH_done (by kernel_rfl) ?_ _
            clear hHeld
            have HKK := Lib.hid (HKK.out.below HB8.out)
            have HZ2 := Lib.hid (HZ2.out.below HB8.out (Nat.le_refl _))
            have cn : ∀ j, wq.cell? ⟨N, j, none⟩ = (#[.int .i64 t, .float .f64 v0, .float .f64 v1, .float .f64 v2, .slice (some ⟨gz, 0, none⟩) l.length ct] : Array Value)[j]? := HKK.out.n.cell
            go_wp2_with (refine wl_store_own rfl 47 (.tmp 75) (.tmp 74) rfl gz ct (k := i) zzG #[.string ⟨#[122, 122]⟩, .float .f64 0, .float .f64 0, .float .f64 0] (by simp [Act.eval]) (by simp [Act.eval]) HZ2.out (by omega) rfl szG ?_; intro w8 ho hg8 hs8; have HZ8 := Lib.hid ho; have HG8 := Lib.hid hg8; clear ho hg8 hs8)
            go_roundw
            case rel => exact ⟨i + 1, by omega, by go_num, HKK.out.setZ HG8.out (by rw [← HZS.out, ← hzl]; exact HZ8.out) HGG.out⟩
            case measure => simp [intOf]; omega
          · obtain rfl : i = l.length := by omega
            have dk : decide ((l.length : Int) < (l.length : Int)) = false := by simp
            go_wp2_with fail
            have HQ := Lib.hid HKK.out.q.drew
            have HS4 := Lib.hid HKK.out.s.drew
            have HU := Lib.hid HKK.out.o.toRds.drew
            clear HKK
            refine wp_region_held_drew (S := (fun w' => w'.cell? ⟨w.heap.size, 0, none⟩ = some (.int .i64 t) ∧ w'.cell? ⟨w.heap.size, 1, none⟩ = some (.float .f64 v0) ∧ w'.cell? ⟨w.heap.size, 2, none⟩ = some (.float .f64 v1) ∧ w'.cell? ⟨w.heap.size, 3, none⟩ = some (.float .f64 v2) ∧ w'.cell? ⟨w.heap.size, 4, none⟩ = some (.slice A l.length c) ∧ w'.cell? ⟨n4, 0, none⟩ = some (.int .i64 t) ∧ w'.cell? ⟨n4, 1, none⟩ = some (.int .i64 x0) ∧ w'.cell? ⟨n4, 2, none⟩ = some (.int .i64 x1) ∧ w'.cell? ⟨n4, 3, none⟩ = some (.int .i64 x2) ∧ w'.cell? ⟨n4, 4, none⟩ = some (.slice A1 L.length c1))) (by kernel_rfl) (⟨HQ.out.box.cell 0, HQ.out.box.cell 1, HQ.out.box.cell 2, HQ.out.box.cell 3, HQ.out.box.cell 4, HS4.out.cell 0, HS4.out.cell 1, HS4.out.cell 2, HS4.out.cell 3, HS4.out.cell 4⟩) (fun hHeld => ?_)
            refine held_take 0 76 (.int .i64 0) rfl rfl (by kernel_rfl) (by kernel_rfl) (by kernel_rfl) (fun _ _ _ h => h) (by rfl) (by intro w' hSw; (try dsimp only at hSw); go_simp; (try (with_reducible rfl))) (by assumption) ?_
            simp only [Act.put, List.setIfInBounds_toArray, List.set_cons_zero, List.set_cons_succ]
            refine held_take 1 77 (.bool true) rfl rfl (by kernel_rfl) (by kernel_rfl) (by kernel_rfl) (fun _ _ _ h => h) (by rfl) (by intro w' hSw; (try dsimp only at hSw); go_simp; (first | done | with_reducible rfl | (simp; done))) (by assumption) ?_
            simp only [Act.put, List.setIfInBounds_toArray, List.set_cons_zero, List.set_cons_succ]
            refine held_take 2 78 (.bool true) rfl rfl (by kernel_rfl) (by kernel_rfl) (by kernel_rfl) (fun _ _ _ h => h) (by rfl) (by intro w' hSw; (try dsimp only at hSw); go_simp; (try (with_reducible rfl))) (by assumption) ?_
            simp only [Act.put, List.setIfInBounds_toArray, List.set_cons_zero, List.set_cons_succ]
            refine held_take 3 79 (.agg #[.int .i64 t, .int .i64 x0, .int .i64 x1, .int .i64 x2, .slice A1 L.length c1]) rfl rfl (by kernel_rfl) (by kernel_rfl) (by kernel_rfl) (fun _ _ _ h => h) (by rfl) (by intro w' hSw; (try dsimp only at hSw); go_simp; (try (with_reducible rfl))) (by assumption) ?_
            simp only [Act.put, List.setIfInBounds_toArray, List.set_cons_zero, List.set_cons_succ]
            refine held_take 4 80 (.agg #[.int .i64 t, .float .f64 v0, .float .f64 v1, .float .f64 v2, .slice A l.length c]) rfl rfl (by kernel_rfl) (by kernel_rfl) (by kernel_rfl) (fun _ _ _ h => h) (by rfl) (by intro w' hSw; (try dsimp only at hSw); go_simp; (try (with_reducible rfl))) (by assumption) ?_
            simp only [Act.put, List.setIfInBounds_toArray, List.set_cons_zero, List.set_cons_succ]
            refine held_call 5 81 rfl rfl (by kernel_rfl) (by rfl) (fun K hK => ?_)
            go_simp
            go_at_call 16; (with_reducible refine (HRD.out _ (HWF.out.below HQ.out.bel)).mono ?_); rintro x wq ⟨A5, c5, rfl, ho, hb⟩
            have HQ := Lib.hid (HQ.out.below hb)
            have HS4 := Lib.hid (HS4.out.belowAll hb)
            have HU := Lib.hid (HU.out.below hb)
            have HV := Lib.hid ho.toRds
            clear ho
            clear hb
            refine hK _ _ (⟨HQ.out.box.cell 0, HQ.out.box.cell 1, HQ.out.box.cell 2, HQ.out.box.cell 3, HQ.out.box.cell 4, HS4.out.cell 0, HS4.out.cell 1, HS4.out.cell 2, HS4.out.cell 3, HS4.out.cell 4⟩) ?_
            have hHeld := (show wq.cell? ⟨w.heap.size, 0, none⟩ = some (.int .i64 t) ∧ wq.cell? ⟨w.heap.size, 1, none⟩ = some (.float .f64 v0) ∧ wq.cell? ⟨w.heap.size, 2, none⟩ = some (.float .f64 v1) ∧ wq.cell? ⟨w.heap.size, 3, none⟩ = some (.float .f64 v2) ∧ wq.cell? ⟨w.heap.size, 4, none⟩ = some (.slice A l.length c) ∧ wq.cell? ⟨n4, 0, none⟩ = some (.int .i64 t) ∧ wq.cell? ⟨n4, 1, none⟩ = some (.int .i64 x0) ∧ wq.cell? ⟨n4, 2, none⟩ = some (.int .i64 x1) ∧ wq.cell? ⟨n4, 3, none⟩ = some (.int .i64 x2) ∧ wq.cell? ⟨n4, 4, none⟩ = some (.slice A1 L.length c1) from ⟨HQ.out.box.cell 0, HQ.out.box.cell 1, HQ.out.box.cell 2, HQ.out.box.cell 3, HQ.out.box.cell 4, HS4.out.cell 0, HS4.out.cell 1, HS4.out.cell 2, HS4.out.cell 3, HS4.out.cell 4⟩)
            clear hK K
            simp only [Act.put, List.setIfInBounds_toArray, List.set_cons_zero, List.set_cons_succ]
            refine held_call 6 82 rfl rfl (by kernel_rfl) (by rfl) (fun K hK => ?_)
            go_simp
            go_at_call 15; (with_reducible refine (same17_self t x0 x1 x2 L A1 A5 c1 c5 _ HU.out HV.out (by omega)).mono ?_); rintro x wq ⟨rfl, hb⟩
            have HQ := Lib.hid (HQ.out.below hb)
            have HS4 := Lib.hid (HS4.out.belowAll hb)
            have HU := Lib.hid (HU.out.below hb)
            clear HV
            clear hb
            refine hK _ _ (⟨HQ.out.box.cell 0, HQ.out.box.cell 1, HQ.out.box.cell 2, HQ.out.box.cell 3, HQ.out.box.cell 4, HS4.out.cell 0, HS4.out.cell 1, HS4.out.cell 2, HS4.out.cell 3, HS4.out.cell 4⟩) ?_
            have hHeld := (show wq.cell? ⟨w.heap.size, 0, none⟩ = some (.int .i64 t) ∧ wq.cell? ⟨w.heap.size, 1, none⟩ = some (.float .f64 v0) ∧ wq.cell? ⟨w.heap.size, 2, none⟩ = some (.float .f64 v1) ∧ wq.cell? ⟨w.heap.size, 3, none⟩ = some (.float .f64 v2) ∧ wq.cell? ⟨w.heap.size, 4, none⟩ = some (.slice A l.length c) ∧ wq.cell? ⟨n4, 0, none⟩ = some (.int .i64 t) ∧ wq.cell? ⟨n4, 1, none⟩ = some (.int .i64 x0) ∧ wq.cell? ⟨n4, 2, none⟩ = some (.int .i64 x1) ∧ wq.cell? ⟨n4, 3, none⟩ = some (.int .i64 x2) ∧ wq.cell? ⟨n4, 4, none⟩ = some (.slice A1 L.length c1) from ⟨HQ.out.box.cell 0, HQ.out.box.cell 1, HQ.out.box.cell 2, HQ.out.box.cell 3, HQ.out.box.cell 4, HS4.out.cell 0, HS4.out.cell 1, HS4.out.cell 2, HS4.out.cell 3, HS4.out.cell 4⟩)
            clear hK K
            simp only [Act.put, List.setIfInBounds_toArray, List.set_cons_zero, List.set_cons_succ]
            refine held_take 7 83 (.bool true) rfl rfl (by kernel_rfl) (by kernel_rfl) (by kernel_rfl) (fun _ _ _ h => h) (by rfl) (by intro w' hSw; (try dsimp only at hSw); go_simp; (try (with_reducible rfl))) (by assumption) ?_
            simp only [Act.put, List.setIfInBounds_toArray, List.set_cons_zero, List.set_cons_succ]
            refine held_take 8 2 (.bool true) rfl rfl (by kernel_rfl) (by kernel_rfl) (by kernel_rfl) (fun _ _ _ h => h) (by rfl) (by intro w' hSw; (try dsimp only at hSw); go_simp; (try (with_reducible rfl))) (by assumption) ?_
            simp only [Act.put, List.setIfInBounds_toArray, List.set_cons_zero, List.set_cons_succ]
            refine wpAnyH_done (by kernel_rfl) ?_ _
            clear hHeld
            go_wp2_with fail
            go_ret
            exact ⟨rfl, HQ.out.bel⟩
end Go.Proofs.YtampjkgkiooibaaDoor
