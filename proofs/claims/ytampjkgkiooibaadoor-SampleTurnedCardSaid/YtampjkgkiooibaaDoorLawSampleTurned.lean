/- bilgelaw17.SampleTurned: told the other way round it is the same sample; with a name twice it is none. -/
import Derived.Test.YtampjkgkiooibaaDoorSFloat
import Derived.Test.YtampjkgkiooibaaDoorHeldOp
namespace Go.Proofs.YtampjkgkiooibaaDoor
open Go.RowKit

theorem rno {p : Prop} (h : ¬ p) : false = true ↔ p := ⟨(fun h => by cases h), (fun k => absurd k h)⟩
section
variable {P : Program} {ops : Array Oper} {Q : Exit → Act → World → Prop} {S : World → Prop} {md : Region.Mode} {fuel : Nat} {listed : Array Bool} {a : Act} {w : World}
theorem held_twoD (i j di dj : Nat) {oi oj : Oper} (hi : ops[i]? = some oi) (hj : ops[j]? = some oj) (hdi : oi.dst = some di) (hdj : oj.dst = some dj) (hr : Region.ready md ops listed = [i, j]) (hwi : Region.wanted oi (yielded ops a.tmps) = true) (hwj : Region.wanted oj (yielded ops a.tmps) = true)
    (h1 : ∀ K : Act → World → Prop, (∀ v w', S w' → wpAnyH P md ops Q S fuel (listed.setIfInBounds i true) (a.put (some di) v) w' → K (a.put (some di) v) w') → Oper.wp P oi a w K Q)
    (h2 : ∀ K : Act → World → Prop, (∀ v w', S w' → wpAnyH P md ops Q S fuel (listed.setIfInBounds j true) (a.put (some dj) v) w' → K (a.put (some dj) v) w') → Oper.wp P oj a w K Q) : wpAnyH P md ops Q S (fuel + 1) listed a w :=
  held_two i j hi hj hr hwi hwj (by rw [hdi]; exact h1) (by rw [hdj]; exact h2)
theorem held_three (i j k di dj dk : Nat) {oi oj ok : Oper} (hi : ops[i]? = some oi) (hj : ops[j]? = some oj) (hk : ops[k]? = some ok) (hr : Region.ready md ops listed = [i, j, k]) (hwi : Region.wanted oi (yielded ops a.tmps) = true) (hwj : Region.wanted oj (yielded ops a.tmps) = true) (hwk : Region.wanted ok (yielded ops a.tmps) = true)
    (h1 : ∀ K : Act → World → Prop, (∀ v w', S w' → wpAnyH P md ops Q S fuel (listed.setIfInBounds i true) (a.put (some di) v) w' → K (a.put (some di) v) w') → Oper.wp P oi a w K Q)
    (h2 : ∀ K : Act → World → Prop, (∀ v w', S w' → wpAnyH P md ops Q S fuel (listed.setIfInBounds j true) (a.put (some dj) v) w' → K (a.put (some dj) v) w') → Oper.wp P oj a w K Q)
    (h3 : ∀ K : Act → World → Prop, (∀ v w', S w' → wpAnyH P md ops Q S fuel (listed.setIfInBounds k true) (a.put (some dk) v) w' → K (a.put (some dk) v) w') → Oper.wp P ok a w K Q) : wpAnyH P md ops Q S (fuel + 1) listed a w := by
  refine wpAnyH_ready (rs := [i, j, k]) hr (by simp) ?_
  refine AllReadyH.cons hi (fun K hK => ?_) (AllReadyH.cons hj (fun K hK => ?_) (AllReadyH.cons hk (fun K hK => ?_) AllReadyH.nil))
  · rw [if_pos hwi]
    refine h1 K fun v w' hS hh => ?_
    exact hK.out _ _ hS fun _ => hh
  · rw [if_pos hwj]
    refine h2 K fun v w' hS hh => ?_
    exact hK.out _ _ hS fun _ => hh
  · rw [if_pos hwk]
    refine h3 K fun v w' hS hh => ?_
    exact hK.out _ _ hS fun _ => hh
end
theorem elemG : Elem Tryd.prog 24 47 4 40 := by
  obtain ⟨i, h1, h2, h3, h4⟩ := info_parts (show (Tryd.prog.info? 47).map (fun i => (i.zero, i.size, i.bytes)) = some (some (.agg #[.string ⟨#[]⟩, .float .f64 0, .float .f64 0, .float .f64 0]), 4, 40) by kernel_rfl)
  exact ⟨Tryd.underlying24, i, _, h1, h2, h3, h4, rfl⟩
theorem ug_cells {W : World} {b off i : Nat} {l : List Ug} {g : Ug} (h : Rds W encG (some ⟨b, off, none⟩) l) (hg : l[i]? = some g) :
    W.cell? ⟨b, off + i * 4, none⟩ = some (.string g.id) ∧ W.cell? ⟨b, off + i * 4 + 1, none⟩ = some (.float .f64 g.f0) ∧ W.cell? ⟨b, off + i * 4 + 2, none⟩ = some (.float .f64 g.f1) ∧ W.cell? ⟨b, off + i * 4 + 3, none⟩ = some (.float .f64 g.f2) := by
  obtain ⟨hi, e⟩ := List.getElem?_eq_some_iff.1 hg
  obtain ⟨b', off', hA, _, c0, c1, c2, c3⟩ := h.ug hi
  cases hA
  rw [e] at c0 c1 c2 c3
  exact ⟨c0, c1, c2, c3⟩
theorem Own.cap2 {w : World} {b : Nat} {l : List Ug} {At : Option Addr} {ct : Nat} (h : Own w b 47 encG (.slice At l.length ct) l) : l.length ≤ ct ∧ ct ≤ 9223372036854775807 := ⟨h.cap.2.1, h.cap.2.2⟩
/-- what was handed in, and what is told the other way round -/
structure TQ (t : Int) (v0 v1 v2 : Nat) (A : Option Addr) (l : List Ug) (c n5 : Nat) (A' : Option Addr) (c' : Nat) (M : List Ug) (w W : World) : Prop where
  q : RQ (⟨t, v0, v1, v2, A, l, c⟩ : Rw) w W
  n : Blk W n5 26 #[.int .i64 t, .float .f64 v0, .float .f64 v1, .float .f64 v2, .slice A' M.length c']
  z : Own W w.heap.size 47 encG (.slice A' M.length c') M
  hn : w.heap.size < n5
/-- behind an append, ahead of its store -/
structure TP (t : Int) (v0 v1 v2 : Nat) (A : Option Addr) (l : List Ug) (c n5 : Nat) (v : Value) (w W : World) : Prop where
  q : RQ (⟨t, v0, v1, v2, A, l, c⟩ : Rw) w W
  n : Blk W n5 26 #[.int .i64 t, .float .f64 v0, .float .f64 v1, .float .f64 v2, v]
  hn : w.heap.size < n5
section
variable {t : Int} {v0 v1 v2 c n5 c' : Nat} {A A' : Option Addr} {l M : List Ug} {w W W' : World}
theorem TQ.start (h : RQ (⟨t, v0, v1, v2, A, l, c⟩ : Rw) w W') (hm : Blk W' n5 26 #[.int .i64 t, .float .f64 v0, .float .f64 v1, .float .f64 v2, .slice none 0 0]) (hn : w.heap.size < n5) : TQ t v0 v1 v2 A l c n5 none 0 [] w W' := ⟨h, hm, Own.nil_ _ _ _ _, hn⟩
theorem TQ.below (h : TQ t v0 v1 v2 A l c n5 A' c' M w W) (hb : Below W.heap.size W W') : TQ t v0 v1 v2 A l c n5 A' c' M w W' := ⟨h.q.below hb, h.n.belowAll hb, h.z.below hb (Nat.le_refl _), h.hn⟩
theorem TQ.drew (h : TQ t v0 v1 v2 A l c n5 A' c' M w W) : TQ t v0 v1 v2 A l c n5 A' c' M w W.drew := ⟨h.q.drew, h.n.drew, h.z.drew, h.hn⟩
theorem TQ.alloc (h : TQ t v0 v1 v2 A l c n5 A' c' M w W) (o : Obj) : TQ t v0 v1 v2 A l c n5 A' c' M w (W.alloc o) := ⟨h.q.alloc o, h.n.alloc o, h.z.alloc o, h.hn⟩
theorem TQ.push (h : TQ t v0 v1 v2 A l c n5 A' c' M w W) {o : Obj} (hg : (W.alloc o).grownBy W' (Value.slice A' M.length c').ownBlock) (hb : Below w.heap.size w W') : TP t v0 v1 v2 A l c n5 (.slice A' M.length c') w W' :=
  ⟨⟨h.q.rds0, (h.q.box.alloc o).grown hg ((h.z.alloc o).ne_blk (h.q.box.alloc o) (by decide)), hb⟩, (h.n.alloc o).grown hg ((h.z.alloc o).ne_blk (h.n.alloc o) (by decide)), h.hn⟩
theorem TP.stored {v : Value} {q : List Ug} {A3 : Option Addr} {c3 : Nat} (h : TP t v0 v1 v2 A l c n5 v w W) (ho : Own W w.heap.size 47 encG (.slice A3 q.length c3) q) : TQ t v0 v1 v2 A l c n5 A3 c3 q w (W.setCell ⟨n5, 4, none⟩ (.slice A3 q.length c3)) :=
  ⟨h.q.far h.hn _, h.n.set_ 4 _, ho.setFar h.n (by decide) 4 _, h.hn⟩
end
theorem right_parts {r : Rw} : RightR r ↔ r.uses.length ≤ 128 ∧ K3 r.v0 r.v1 r.v2 ∧ (∀ g ∈ r.uses, K3 g.f0 g.f1 g.f2 ∧ named g.id.data.toList = true) ∧ r.uses.Pairwise fun x y => x.id ≠ y.id := by
  constructor
  · intro h
    refine ⟨h.len, h.k, fun g hg => ?_, distinct_of h.ok⟩
    obtain ⟨i, hi, rfl⟩ := List.getElem_of_mem hg
    exact ⟨(h.ok i hi hi).k, (h.ok i hi hi).n⟩
  · rintro ⟨h1, h2, h3, h4⟩
    rw [List.pairwise_iff_getElem] at h4
    exact ⟨h1, h2, fun i hi _ => ⟨(h3 _ (List.getElem_mem hi)).1, fun j hj => h4 j i (by omega) hi hj, (h3 _ (List.getElem_mem hi)).2⟩⟩
theorem right_rev {t : Int} {v0 v1 v2 c c' : Nat} {A A' : Option Addr} {l : List Ug} (h : RightR ⟨t, v0, v1, v2, A, l, c⟩) : RightR ⟨t, v0, v1, v2, A', l.reverse, c'⟩ := by
  rw [right_parts] at h ⊢
  obtain ⟨h1, h2, h3, h4⟩ := h
  refine ⟨by show l.reverse.length ≤ 128; rw [List.length_reverse]; exact h1, h2, fun g hg => h3 g (List.mem_reverse.1 hg), ?_⟩
  show List.Pairwise _ l.reverse
  rw [List.pairwise_reverse]
  exact h4.imp fun h e => h e.symm
theorem right_rev' {t : Int} {v0 v1 v2 c c' : Nat} {A A' : Option Addr} {l : List Ug} (h : RightR ⟨t, v0, v1, v2, A', l.reverse, c'⟩) : RightR ⟨t, v0, v1, v2, A, l, c⟩ := by
  have := right_rev (A' := A) (c' := c) h
  rwa [List.reverse_reverse] at this
theorem read_rev {t : Int} {v0 v1 v2 c : Nat} {A : Option Addr} {l : List Ug} (h : RightR ⟨t, v0, v1, v2, A, l, c⟩) : readUses l.reverse = readUses l := by
  have h2 := right_rev (A' := A) (c' := c) h
  refine sort_read h ?_ ?_
  · refine (readUses_perm l.reverse).trans ?_
    show (l.reverse.map toUs).Perm (l.map toUs)
    exact (List.reverse_perm l).map toUs
  · refine (readUses_sorted (distinct_of h2.ok)).imp fun {x y} hb => ?_
    cases h9 : blt y.id x.id
    · rfl
    · exact absurd (blt_trans hb h9) (by rw [blt_irrefl]; simp)
theorem dup_no {t : Int} {v0 v1 v2 c9 k : Nat} {A9 : Option Addr} {O : List Ug} {x : Ug} (h : RightR ⟨t, v0, v1, v2, A9, O ++ [x], c9⟩) (hk : k < O.length) (hx : O[k] = x) : False := by
  have h4 := (right_parts.1 h).2.2.2
  have h5 := (List.pairwise_append.1 h4).2.2 O[k] (List.getElem_mem hk) x (by simp)
  exact h5 (by rw [hx])
theorem rev_wf {t : Int} {v0 v1 v2 c c' : Nat} {A A' : Option Addr} {l : List Ug} {w W : World} (h : Rw.Wf ⟨t, v0, v1, v2, A, l, c⟩ w) (hr : Rds W encG A' l.reverse) (hc : l.reverse.length ≤ c' ∧ c' ≤ 9223372036854775807) : Rw.Wf ⟨t, v0, v1, v2, A', l.reverse, c'⟩ W :=
  ⟨h.h0, h.h1, h.h2, h.time, hr, fun g hg => h.us g (List.mem_reverse.1 hg), fun g hg => h.ids g (List.mem_reverse.1 hg), hc.1, hc.2⟩
theorem dup_wf {t : Int} {v0 v1 v2 c' k3 : Nat} {A' A3 : Option Addr} {O : List Ug} {x : Ug} {w W : World} (h : Rw.Wf ⟨t, v0, v1, v2, A', O, c'⟩ w) (hx : x ∈ O) (hr : Rds W encG A3 (O ++ [x])) (hc : (O ++ [x]).length ≤ k3 ∧ k3 ≤ 9223372036854775807) : Rw.Wf ⟨t, v0, v1, v2, A3, O ++ [x], k3⟩ W :=
  ⟨h.h0, h.h1, h.h2, h.time, hr, fun g hg => by
    rcases List.mem_append.1 hg with hg | hg
    · exact h.us g hg
    · rw [List.mem_singleton.1 hg]; exact h.us x hx, fun g hg => by
    rcases List.mem_append.1 hg with hg | hg
    · exact h.ids g hg
    · rw [List.mem_singleton.1 hg]; exact h.ids x hx, hc.1, hc.2⟩
theorem sreadG {r : Rw} {v : Bool} {q : Tk} (hq : tkOf r.time (readN r.v0) (readN r.v1) (readN r.v2) (readUses r.uses) (if v = true then none else some 1) = q) (w : World) (hv : v = true ↔ RightR r) (hr : r.Wf w) :
    Calls Tryd.prog 12 #[.agg r.cells] w (GivesT q w) := by
  subst hq
  exact (sread_any hv w hr).mono fun e w' h => h.gives
theorem sread_bar {r : Rw} (hv : false = true ↔ RightR r) (w : World) (hr : r.Wf w) :
    Calls Tryd.prog 12 #[.agg #[.int .i64 r.time, .float .f64 r.v0, .float .f64 r.v1, .float .f64 r.v2, .slice r.A r.uses.length r.c]] w fun e w' => e = .returned (.tuple #[.agg #[.int .i64 0, .int .i64 0, .int .i64 0, .int .i64 0, .slice none 0 0], .int .i64 1]) ∧ Below w.heap.size w w' := sread_any hv w hr
set_option maxRecDepth 100000 in
set_option maxHeartbeats 16000000 in
theorem sampleTurned_any {t : Int} {v0 v1 v2 c : Nat} {A : Option Addr} {l : List Ug} (at_ : UInt8) (w : World) (hr : Rw.Wf ⟨t, v0, v1, v2, A, l, c⟩ w) :
    Calls Tryd.prog 7 #[.agg #[.int .i64 t, .float .f64 v0, .float .f64 v1, .float .f64 v2, .slice A l.length c], .int .u8 at_.toNat] w fun e w' => e = .returned (.bool true) ∧ Below w.heap.size w w' := by
  have mixed : Tryd.prog.follows Departure.mixedOrders = true := by kernel_rfl
  have HQ : Hid (RQ (⟨t, v0, v1, v2, A, l, c⟩ : Rw) w (w.alloc (.cells #[.int .i64 t, .float .f64 v0, .float .f64 v1, .float .f64 v2, .slice A l.length c] 26))) := RQ.new _ w hr.rds
  have HWF := Lib.hid hr
  have hlc := hr.len
  have hcm := hr.cap
  simp only at hlc hcm
  have ht := hr.time
  clear hr
  have HNB := Lib.hid ht
  have cr : ∀ i, (w.alloc (.cells #[.int .i64 t, .float .f64 v0, .float .f64 v1, .float .f64 v2, .slice A l.length c] 26)).cell? ⟨w.heap.size, i, none⟩ = (#[.int .i64 t, .float .f64 v0, .float .f64 v1, .float .f64 v2, .slice A l.length c] : Array Value)[i]? := HQ.out.box.cell
  go_enter Tryd.func7, Tryd.ntmps7
  go_wp2_with fail
  refine (awake17_any _).mono ?_; rintro e w1 ⟨rfl, hb⟩
  have HQ := Lib.hid (HQ.out.below hb)
  clear hb cr
  have cr : ∀ i, w1.cell? ⟨w.heap.size, i, none⟩ = (#[.int .i64 t, .float .f64 v0, .float .f64 v1, .float .f64 v2, .slice A l.length c] : Array Value)[i]? := HQ.out.box.cell
  go_wp2_with fail
  obtain ⟨vf, hvf⟩ : ∃ v, fewR l = v := ⟨_, rfl⟩
  refine (few17V_any (r := ⟨t, v0, v1, v2, A, l, c⟩) hvf _ (HWF.out.below HQ.out.bel).rds (by show l.length ≤ _; omega) HWF.out.ids).mono ?_; rintro e w2 ⟨rfl, hb⟩
  have HQ := Lib.hid (HQ.out.below hb)
  have HFW := Lib.hid hvf
  clear hb cr hvf
  cases vf
  · clear HFW
    go_wp2_with fail
    refine (awake17_any _).mono ?_; rintro e w9 ⟨rfl, hb⟩
    have HQ := Lib.hid (HQ.out.below hb)
    clear hb
    go_wp2_with fail
    go_ret
    exact ⟨rfl, HQ.out.bel⟩
  · have hl140 := few_len HFW.out
    have cr : ∀ i, w2.cell? ⟨w.heap.size, i, none⟩ = (#[.int .i64 t, .float .f64 v0, .float .f64 v1, .float .f64 v2, .slice A l.length c] : Array Value)[i]? := HQ.out.box.cell
    have HN0 := Lib.hid (Blk.new w2 26 #[.int .i64 0, .float .f64 0, .float .f64 0, .float .f64 0, .slice none 0 0])
    go_wp2_with (refine wl_store_blk rfl 26 (.tmp 5) (.tmp 25) rfl w2.heap.size 26 #[.int .i64 0, .float .f64 0, .float .f64 0, .float .f64 0, .slice none 0 0] #[.int .i64 t, .float .f64 v0, .float .f64 v1, .float .f64 v2, .slice none 0 0] rfl rfl HN0.out rfl szR (by simp [Value.oneCell']) ?_; intro w3 hN1 hg1 hs1; have HBF := Lib.hid (below_fresh hg1); have HLW := Lib.hid HQ.out.box.lt; have HT := Lib.hid (TQ.start (HQ.out.below HBF.out) hN1 HLW.out); have cr : ∀ i, w3.cell? ⟨w.heap.size, i, none⟩ = (#[.int .i64 t, .float .f64 v0, .float .f64 v1, .float .f64 v2, .slice A l.length c] : Array Value)[i]? := HT.out.q.box.cell; clear hN1 hg1 hs1)
    clear HN0 HBF HLW HQ
    generalize w2.heap.size = n5 at *
    go_loopw [6] (fun ii wr => ∃ (j : Nat) (A' : Option Addr) (c' : Nat) (z : Int), j ≤ l.length ∧ z + 1 = (j : Int) ∧ ii = .int .i64 z ∧ TQ t v0 v1 v2 A l c n5 A' c' (l.drop j).reverse w wr) (fun ii _ => (intOf ii + 1).toNat)
    case atStart => exact ⟨l.length, none, 0, (l.length : Int) - 1, by omega, by omega, by go_num, by rw [List.drop_length]; exact HT.out⟩
    case round =>
      clear HT cr
      obtain ⟨j, A', c', z, hj, hz, rfl, ht'⟩ := hrel
      have HT := Lib.hid ht'
      clear ht'
      cases j with
      | succ m =>
        obtain rfl : z = (m : Int) := by omega
        clear hz
        have dk : decide ((0 : Int) ≤ (m : Int)) = true := decide_eq_true (by omega)
        have hmb : m < l.length := by omega
        obtain ⟨bb, off, hA, hjk⟩ := HWF.out.rds.ug hmb
        clear hjk
        obtain rfl : A = some ⟨bb, off, none⟩ := hA
        have HXI := Lib.hid (List.getElem?_eq_getElem hmb)
        have HNX := Lib.hid (show (l.drop m).reverse = (l.drop (m + 1)).reverse ++ [l[m]] by rw [List.drop_eq_getElem_cons hmb, List.reverse_cons])
        obtain ⟨M, hM⟩ : ∃ M, (l.drop (m + 1)).reverse = M := ⟨_, rfl⟩
        rw [hM] at HT HNX
        have hml : M.length ≤ 140 := by rw [← hM, List.length_reverse, List.length_drop]; omega
        clear hM
        generalize l[m] = x at *
        have dm : (m : Int) < (l.length : Int) := by omega
        go_wp2_with fail
        have HTd := Lib.hid HT.out.drew
        refine wp_region_held_drew (S := fun _ => True) (by kernel_rfl) trivial (fun hHeld => ?_)
        generalize wr.drew = Wd at *
        clear HT
        refine held_take 0 34 (.pointer (some ⟨n5, 4, none⟩)) rfl rfl (by kernel_rfl) (by kernel_rfl) (by kernel_rfl) (fun _ _ _ h => h) (by rfl) (by intro w' hSw; (try dsimp only at hSw); go_simp; (try (with_reducible rfl))) (by assumption) ?_
        simp only [Act.put, List.setIfInBounds_toArray, List.set_cons_zero, List.set_cons_succ]
        refine held_take 2 36 (.pointer (some ⟨w.heap.size, 4, none⟩)) rfl rfl (by kernel_rfl) (by kernel_rfl) (by kernel_rfl) (fun _ _ _ h => h) (by rfl) (by intro w' hSw; (try dsimp only at hSw); go_simp; (try (with_reducible rfl))) (by assumption) ?_
        simp only [Act.put, List.setIfInBounds_toArray, List.set_cons_zero, List.set_cons_succ]
        refine held_take 4 38 (.int .i64 m) rfl rfl (by kernel_rfl) (by kernel_rfl) (by kernel_rfl) (fun _ _ _ h => h) (by rfl) (by intro w' hSw; (try dsimp only at hSw); go_simp; (try (with_reducible rfl))) (by assumption) ?_
        simp only [Act.put, List.setIfInBounds_toArray, List.set_cons_zero, List.set_cons_succ]
        refine held_twoD 1 3 35 37 rfl rfl rfl rfl (by kernel_rfl) (by rfl) (by rfl) (fun K hK => ?_) (fun K hK => ?_)
        · have cs := HTd.out.n.cell
          go_simp
          refine hK _ _ trivial ?_
          clear hK K cs
          simp only [Act.put, List.setIfInBounds_toArray, List.set_cons_zero, List.set_cons_succ]
          refine held_call 3 37 rfl rfl (by kernel_rfl) (by rfl) (fun K hK => ?_)
          have cs := HTd.out.q.box.cell
          go_simp
          refine hK _ _ trivial ?_
          clear hK K cs
          simp only [Act.put, List.setIfInBounds_toArray, List.set_cons_zero, List.set_cons_succ]
          refine held_take 5 39 (.pointer (some ⟨bb, off + m * 4, none⟩)) rfl rfl (by kernel_rfl) (by kernel_rfl) (by kernel_rfl) (fun _ _ _ h => h) (by rfl) (by intro w' hSw; (try dsimp only at hSw); go_simp; (try (with_reducible rfl))) (by assumption) ?_
          simp only [Act.put, List.setIfInBounds_toArray, List.set_cons_zero, List.set_cons_succ]
          refine held_call 6 40 rfl rfl (by kernel_rfl) (by rfl) (fun K hK => ?_)
          obtain ⟨x0, x1, x2, x3⟩ := ug_cells HTd.out.q.rds HXI.out
          go_simp
          refine hK _ _ trivial ?_
          clear hK K x0 x1 x2 x3
          simp only [Act.put, List.setIfInBounds_toArray, List.set_cons_zero, List.set_cons_succ]
          refine held_call 7 41 rfl rfl (by kernel_rfl) (by rfl) (fun K hK => ?_)
          go_simp
          refine hK _ _ trivial ?_
          clear hK K
          simp only [Act.put, List.setIfInBounds_toArray, List.set_cons_zero, List.set_cons_succ]
          have HTA := Lib.hid (HTd.out.alloc (.cells (⟨x.id, x.f0, x.f1, x.f2⟩ : Ug).cells 47))
          have HRW := Lib.hid (Rds.made Wd encG [x] 47 (⟨x.id, x.f0, x.f1, x.f2⟩ : Ug).cells (0, 0) rfl)
          refine held_call 8 42 rfl rfl (by kernel_rfl) (by rfl) (fun K hK => ?_)
          refine wp_app _ elemG encG (.tmp 35) (.tmp 41) rfl w.heap.size _ M (by simp [Act.eval]) HTA.out.z _ [x] 1 (by simp [Act.eval]) HRW.out (by simp; omega) (by simp; omega) HTA.out.q.bel.size ?_
          intro A3 k3 w9 ho hg _
          have HPS := Lib.hid (HTd.out.push hg (HTA.out.z.belowGrown HTA.out.q.bel hg (Nat.le_refl _) HTA.out.q.bel.size))
          have HO3 := Lib.hid (show Own w9 w.heap.size 47 encG (.slice A3 (M ++ [x]).length k3) (M ++ [x]) by rw [List.length_append]; exact ho)
          clear ho hg
          refine hK _ _ trivial ?_
          clear hK K
          simp only [Act.put, List.setIfInBounds_toArray, List.set_cons_zero, List.set_cons_succ]
          refine held_take 9 43 (.pointer (some ⟨n5, 4, none⟩)) rfl rfl (by kernel_rfl) (by kernel_rfl) (by kernel_rfl) (fun _ _ _ h => h) (by rfl) (by intro w' hSw; (try dsimp only at hSw); go_simp; (try (with_reducible rfl))) (by assumption) ?_
          simp only [Act.put, List.setIfInBounds_toArray, List.set_cons_zero, List.set_cons_succ]
          refine held_op 10 rfl (by kernel_rfl) (by rfl) (fun K hK => ?_)
          have cs := HPS.out.n.cell
          have fs := HPS.out.n.frozen
          go_simp
          refine hK undef _ trivial ?_
          clear hK K cs fs
          simp only [Act.put, List.setIfInBounds_toArray]
          refine wpAnyH_done (by kernel_rfl) ?_ _
          clear hHeld
          go_wp2_with fail
          go_roundw
          case rel => exact ⟨m, A3, k3, (m : Int) - 1, by omega, by omega, by go_num, by rw [HNX.out]; have := HPS.out.stored HO3.out; rwa [List.length_append] at this⟩
          case measure => simp [intOf]
        · have cs := HTd.out.q.box.cell
          go_simp
          refine hK _ _ trivial ?_
          clear hK K cs
          simp only [Act.put, List.setIfInBounds_toArray, List.set_cons_zero, List.set_cons_succ]
          refine held_take 5 39 (.pointer (some ⟨bb, off + m * 4, none⟩)) rfl rfl (by kernel_rfl) (by kernel_rfl) (by kernel_rfl) (fun _ _ _ h => h) (by rfl) (by intro w' hSw; (try dsimp only at hSw); go_simp; (try (with_reducible rfl))) (by assumption) ?_
          simp only [Act.put, List.setIfInBounds_toArray, List.set_cons_zero, List.set_cons_succ]
          refine held_twoD 1 6 35 40 rfl rfl rfl rfl (by kernel_rfl) (by rfl) (by rfl) (fun K hK => ?_) (fun K hK => ?_)
          · have cs := HTd.out.n.cell
            go_simp
            refine hK _ _ trivial ?_
            clear hK K cs
            simp only [Act.put, List.setIfInBounds_toArray, List.set_cons_zero, List.set_cons_succ]
            refine held_call 6 40 rfl rfl (by kernel_rfl) (by rfl) (fun K hK => ?_)
            obtain ⟨x0, x1, x2, x3⟩ := ug_cells HTd.out.q.rds HXI.out
            go_simp
            refine hK _ _ trivial ?_
            clear hK K x0 x1 x2 x3
            simp only [Act.put, List.setIfInBounds_toArray, List.set_cons_zero, List.set_cons_succ]
            refine held_call 7 41 rfl rfl (by kernel_rfl) (by rfl) (fun K hK => ?_)
            go_simp
            refine hK _ _ trivial ?_
            clear hK K
            simp only [Act.put, List.setIfInBounds_toArray, List.set_cons_zero, List.set_cons_succ]
            have HTA := Lib.hid (HTd.out.alloc (.cells (⟨x.id, x.f0, x.f1, x.f2⟩ : Ug).cells 47))
            have HRW := Lib.hid (Rds.made Wd encG [x] 47 (⟨x.id, x.f0, x.f1, x.f2⟩ : Ug).cells (0, 0) rfl)
            refine held_call 8 42 rfl rfl (by kernel_rfl) (by rfl) (fun K hK => ?_)
            refine wp_app _ elemG encG (.tmp 35) (.tmp 41) rfl w.heap.size _ M (by simp [Act.eval]) HTA.out.z _ [x] 1 (by simp [Act.eval]) HRW.out (by simp; omega) (by simp; omega) HTA.out.q.bel.size ?_
            intro A3 k3 w9 ho hg _
            have HPS := Lib.hid (HTd.out.push hg (HTA.out.z.belowGrown HTA.out.q.bel hg (Nat.le_refl _) HTA.out.q.bel.size))
            have HO3 := Lib.hid (show Own w9 w.heap.size 47 encG (.slice A3 (M ++ [x]).length k3) (M ++ [x]) by rw [List.length_append]; exact ho)
            clear ho hg
            refine hK _ _ trivial ?_
            clear hK K
            simp only [Act.put, List.setIfInBounds_toArray, List.set_cons_zero, List.set_cons_succ]
            refine held_take 9 43 (.pointer (some ⟨n5, 4, none⟩)) rfl rfl (by kernel_rfl) (by kernel_rfl) (by kernel_rfl) (fun _ _ _ h => h) (by rfl) (by intro w' hSw; (try dsimp only at hSw); go_simp; (try (with_reducible rfl))) (by assumption) ?_
            simp only [Act.put, List.setIfInBounds_toArray, List.set_cons_zero, List.set_cons_succ]
            refine held_op 10 rfl (by kernel_rfl) (by rfl) (fun K hK => ?_)
            have cs := HPS.out.n.cell
            have fs := HPS.out.n.frozen
            go_simp
            refine hK undef _ trivial ?_
            clear hK K cs fs
            simp only [Act.put, List.setIfInBounds_toArray]
            refine wpAnyH_done (by kernel_rfl) ?_ _
            clear hHeld
            go_wp2_with fail
            go_roundw
            case rel => exact ⟨m, A3, k3, (m : Int) - 1, by omega, by omega, by go_num, by rw [HNX.out]; have := HPS.out.stored HO3.out; rwa [List.length_append] at this⟩
            case measure => simp [intOf]
          · obtain ⟨x0, x1, x2, x3⟩ := ug_cells HTd.out.q.rds HXI.out
            go_simp
            refine hK _ _ trivial ?_
            clear hK K x0 x1 x2 x3
            simp only [Act.put, List.setIfInBounds_toArray, List.set_cons_zero, List.set_cons_succ]
            refine held_twoD 1 7 35 41 rfl rfl rfl rfl (by kernel_rfl) (by rfl) (by rfl) (fun K hK => ?_) (fun K hK => ?_)
            · have cs := HTd.out.n.cell
              go_simp
              refine hK _ _ trivial ?_
              clear hK K cs
              simp only [Act.put, List.setIfInBounds_toArray, List.set_cons_zero, List.set_cons_succ]
              refine held_call 7 41 rfl rfl (by kernel_rfl) (by rfl) (fun K hK => ?_)
              go_simp
              refine hK _ _ trivial ?_
              clear hK K
              simp only [Act.put, List.setIfInBounds_toArray, List.set_cons_zero, List.set_cons_succ]
              have HTA := Lib.hid (HTd.out.alloc (.cells (⟨x.id, x.f0, x.f1, x.f2⟩ : Ug).cells 47))
              have HRW := Lib.hid (Rds.made Wd encG [x] 47 (⟨x.id, x.f0, x.f1, x.f2⟩ : Ug).cells (0, 0) rfl)
              refine held_call 8 42 rfl rfl (by kernel_rfl) (by rfl) (fun K hK => ?_)
              refine wp_app _ elemG encG (.tmp 35) (.tmp 41) rfl w.heap.size _ M (by simp [Act.eval]) HTA.out.z _ [x] 1 (by simp [Act.eval]) HRW.out (by simp; omega) (by simp; omega) HTA.out.q.bel.size ?_
              intro A3 k3 w9 ho hg _
              have HPS := Lib.hid (HTd.out.push hg (HTA.out.z.belowGrown HTA.out.q.bel hg (Nat.le_refl _) HTA.out.q.bel.size))
              have HO3 := Lib.hid (show Own w9 w.heap.size 47 encG (.slice A3 (M ++ [x]).length k3) (M ++ [x]) by rw [List.length_append]; exact ho)
              clear ho hg
              refine hK _ _ trivial ?_
              clear hK K
              simp only [Act.put, List.setIfInBounds_toArray, List.set_cons_zero, List.set_cons_succ]
              refine held_take 9 43 (.pointer (some ⟨n5, 4, none⟩)) rfl rfl (by kernel_rfl) (by kernel_rfl) (by kernel_rfl) (fun _ _ _ h => h) (by rfl) (by intro w' hSw; (try dsimp only at hSw); go_simp; (try (with_reducible rfl))) (by assumption) ?_
              simp only [Act.put, List.setIfInBounds_toArray, List.set_cons_zero, List.set_cons_succ]
              refine held_op 10 rfl (by kernel_rfl) (by rfl) (fun K hK => ?_)
              have cs := HPS.out.n.cell
              have fs := HPS.out.n.frozen
              go_simp
              refine hK undef _ trivial ?_
              clear hK K cs fs
              simp only [Act.put, List.setIfInBounds_toArray]
              refine wpAnyH_done (by kernel_rfl) ?_ _
              clear hHeld
              go_wp2_with fail
              go_roundw
              case rel => exact ⟨m, A3, k3, (m : Int) - 1, by omega, by omega, by go_num, by rw [HNX.out]; have := HPS.out.stored HO3.out; rwa [List.length_append] at this⟩
              case measure => simp [intOf]
            · go_simp
              refine hK _ _ trivial ?_
              clear hK K
              simp only [Act.put, List.setIfInBounds_toArray, List.set_cons_zero, List.set_cons_succ]
              have HTA := Lib.hid (HTd.out.alloc (.cells (⟨x.id, x.f0, x.f1, x.f2⟩ : Ug).cells 47))
              have HRW := Lib.hid (Rds.made Wd encG [x] 47 (⟨x.id, x.f0, x.f1, x.f2⟩ : Ug).cells (0, 0) rfl)
              refine held_call 1 35 rfl rfl (by kernel_rfl) (by rfl) (fun K hK => ?_)
              have cs := HTA.out.n.cell
              go_simp
              refine hK _ _ trivial ?_
              clear hK K cs
              simp only [Act.put, List.setIfInBounds_toArray, List.set_cons_zero, List.set_cons_succ]
              refine held_call 8 42 rfl rfl (by kernel_rfl) (by rfl) (fun K hK => ?_)
              refine wp_app _ elemG encG (.tmp 35) (.tmp 41) rfl w.heap.size _ M (by simp [Act.eval]) HTA.out.z _ [x] 1 (by simp [Act.eval]) HRW.out (by simp; omega) (by simp; omega) HTA.out.q.bel.size ?_
              intro A3 k3 w9 ho hg _
              have HPS := Lib.hid (HTd.out.push hg (HTA.out.z.belowGrown HTA.out.q.bel hg (Nat.le_refl _) HTA.out.q.bel.size))
              have HO3 := Lib.hid (show Own w9 w.heap.size 47 encG (.slice A3 (M ++ [x]).length k3) (M ++ [x]) by rw [List.length_append]; exact ho)
              clear ho hg
              refine hK _ _ trivial ?_
              clear hK K
              simp only [Act.put, List.setIfInBounds_toArray, List.set_cons_zero, List.set_cons_succ]
              refine held_take 9 43 (.pointer (some ⟨n5, 4, none⟩)) rfl rfl (by kernel_rfl) (by kernel_rfl) (by kernel_rfl) (fun _ _ _ h => h) (by rfl) (by intro w' hSw; (try dsimp only at hSw); go_simp; (try (with_reducible rfl))) (by assumption) ?_
              simp only [Act.put, List.setIfInBounds_toArray, List.set_cons_zero, List.set_cons_succ]
              refine held_op 10 rfl (by kernel_rfl) (by rfl) (fun K hK => ?_)
              have cs := HPS.out.n.cell
              have fs := HPS.out.n.frozen
              go_simp
              refine hK undef _ trivial ?_
              clear hK K cs fs
              simp only [Act.put, List.setIfInBounds_toArray]
              refine wpAnyH_done (by kernel_rfl) ?_ _
              clear hHeld
              go_wp2_with fail
              go_roundw
              case rel => exact ⟨m, A3, k3, (m : Int) - 1, by omega, by omega, by go_num, by rw [HNX.out]; have := HPS.out.stored HO3.out; rwa [List.length_append] at this⟩
              case measure => simp [intOf]
      | zero =>
        obtain rfl : z = -1 := by omega
        clear hz hj
        have dk : decide ((0 : Int) ≤ (-1 : Int)) = false := rfl
        have HT : Hid (TQ t v0 v1 v2 A l c n5 A' c' l.reverse w wr) := HT.out
        have cr : ∀ i, wr.cell? ⟨w.heap.size, i, none⟩ = (#[.int .i64 t, .float .f64 v0, .float .f64 v1, .float .f64 v2, .slice A l.length c] : Array Value)[i]? := HT.out.q.box.cell
        obtain ⟨v, hv⟩ := exRight (⟨t, v0, v1, v2, A, l, c⟩ : Rw)
        have HVV := Lib.hid hv
        clear hv
        have HVO := Lib.hid (fun h : v = true => right_rev (A' := A') (c' := c') (HVV.out.1 h))
        have HVN := Lib.hid (fun h : RightR (⟨t, v0, v1, v2, A', l.reverse, c'⟩ : Rw) => HVV.out.2 (right_rev' h))
        obtain ⟨q, hq⟩ : ∃ q, tkOf t (readN v0) (readN v1) (readN v2) (readUses l) (if v = true then none else some 1) = q := ⟨_, rfl⟩
        have hqo : tkOf t (readN v0) (readN v1) (readN v2) (readUses l.reverse) (if v = true then none else some 1) = q := by
          rw [← hq]
          cases v
          · rfl
          · show tkOf _ _ _ _ (readUses l.reverse) none = tkOf _ _ _ _ (readUses l) none
            rw [read_rev (HVV.out.1 rfl)]
        have hql := tkOf_len (t := t) (V0 := readN v0) (V1 := readN v1) (V2 := readN v2) (if v = true then none else some 1) hl140
        rw [hq] at hql
        obtain ⟨qt, q0, q1, q2, QL, qk⟩ := q
        have HQQ := Lib.hid hq
        have HQO := Lib.hid hqo
        simp only at hql
        clear hq hqo
        have HWO := Lib.hid (fun W (h : Rds W encG A' l.reverse) => rev_wf HWF.out h HT.out.z.cap2)
        have HIF := Lib.hid (Iff.intro HVO.out HVN.out)
        obtain ⟨O, hO⟩ : ∃ O, l.reverse = O := ⟨_, rfl⟩
        have hol : O.length ≤ 140 := by rw [← hO, List.length_reverse]; exact hl140
        rw [hO] at HT HQO HWO HIF
        clear HVO HVN hO
        go_wp2_with fail
        refine (sreadG (r := (⟨t, v0, v1, v2, A, l, c⟩ : Rw)) HQQ.out _ HVV.out (HWF.out.below HT.out.q.bel)).mono ?_; rintro e w4 ⟨A1, c1, rfl, ho, hb⟩
        have HT := Lib.hid (HT.out.below hb)
        have HU1 := Lib.hid ho.toRds
        have HN0 := Lib.hid (Blk.new w4 32 #[.int .i64 0, .int .i64 0, .int .i64 0, .int .i64 0, .slice none 0 0])
        clear ho hb cr
        go_wp2_with (refine wl_store_blk rfl 32 (.tmp 7) (.tmp 47) rfl w4.heap.size 32 #[.int .i64 0, .int .i64 0, .int .i64 0, .int .i64 0, .slice none 0 0] #[.int .i64 qt, .int .i64 q0, .int .i64 q1, .int .i64 q2, .slice A1 QL.length c1] rfl rfl HN0.out rfl szS (by simp [Value.oneCell']) ?_; intro w5 hN1 hg1 hs1; have HS1 := Lib.hid hN1; have HBF := Lib.hid (below_fresh hg1); have HT := Lib.hid (HT.out.below HBF.out); have HU1 := Lib.hid (HU1.out.below HBF.out); have cn : ∀ i, w5.cell? ⟨n5, i, none⟩ = (#[.int .i64 t, .float .f64 v0, .float .f64 v1, .float .f64 v2, .slice A' O.length c'] : Array Value)[i]? := HT.out.n.cell; clear hN1 hg1 hs1)
        clear HN0 HBF
        generalize w4.heap.size = n7 at *
        refine (sreadG (r := (⟨t, v0, v1, v2, A', O, c'⟩ : Rw)) HQO.out _ HIF.out (HWO.out _ HT.out.z.toRds)).mono ?_; rintro e w6 ⟨A2, c2, rfl, ho, hb⟩
        have HT := Lib.hid (HT.out.below hb)
        have HU1 := Lib.hid (HU1.out.below hb)
        have HS1 := Lib.hid (HS1.out.belowAll hb)
        have HU2 := Lib.hid ho.toRds
        have HN0 := Lib.hid (Blk.new w6 32 #[.int .i64 0, .int .i64 0, .int .i64 0, .int .i64 0, .slice none 0 0])
        clear ho hb cn
        have dq : (qk != qk) = false := by simp
        go_wp2_with (refine wl_store_blk rfl 32 (.tmp 9) (.tmp 52) rfl w6.heap.size 32 #[.int .i64 0, .int .i64 0, .int .i64 0, .int .i64 0, .slice none 0 0] #[.int .i64 qt, .int .i64 q0, .int .i64 q1, .int .i64 q2, .slice A2 QL.length c2] rfl rfl HN0.out rfl szS (by simp [Value.oneCell']) ?_; intro w7 hN1 hg1 hs1; have HS2 := Lib.hid hN1; have HBF := Lib.hid (below_fresh hg1); have HT := Lib.hid (HT.out.below HBF.out); have HU1 := Lib.hid (HU1.out.below HBF.out); have HU2 := Lib.hid (HU2.out.below HBF.out); have HS1 := Lib.hid (HS1.out.belowAll HBF.out); have ks1 : ∀ i, w7.cell? ⟨n7, i, none⟩ = (#[.int .i64 qt, .int .i64 q0, .int .i64 q1, .int .i64 q2, .slice A1 QL.length c1] : Array Value)[i]? := HS1.out.cell; have ks2 : ∀ i, w7.cell? ⟨w6.heap.size, i, none⟩ = (#[.int .i64 qt, .int .i64 q0, .int .i64 q1, .int .i64 q2, .slice A2 QL.length c2] : Array Value)[i]? := HS2.out.cell; clear hN1 hg1 hs1)
        refine (same17_self qt q0 q1 q2 QL A1 A2 c1 c2 _ HU1.out HU2.out (by omega)).mono ?_; rintro e w8 ⟨rfl, hb⟩
        have HT := Lib.hid (HT.out.below hb)
        clear hb ks1 ks2 HU1 HU2 HS1 HS2 HN0 HBF
        have cn : ∀ i, w8.cell? ⟨n5, i, none⟩ = (#[.int .i64 t, .float .f64 v0, .float .f64 v1, .float .f64 v2, .slice A' O.length c'] : Array Value)[i]? := HT.out.n.cell
        have HUO := HWO
        clear HWO HIF HQO HQQ HVV
        by_cases hz0 : O.length = 0
        · have dz : ((O.length : Int) == 0) = true := by rw [hz0]; rfl
          have dzn : (O.length == 0) = true := by rw [hz0]; rfl
          clear hz0
          go_wp2_with fail
          go_ret
          exact ⟨rfl, HT.out.q.bel⟩
        · have dz : ((O.length : Int) == 0) = false := by rw [beq_eq_false_iff_ne]; omega
          have dzn : (O.length == 0) = false := by rw [beq_eq_false_iff_ne]; exact hz0
          obtain ⟨k, hk⟩ : ∃ k, at_.toNat % O.length = k := ⟨_, rfl⟩
          have hkl : k < O.length := by rw [← hk]; exact Nat.mod_lt _ (by omega)
          have dk1 : (k : Int) < (O.length : Int) := by omega
          have em : ((at_.toNat : Int)).tmod (O.length : Int) = (k : Int) := by rw [Int.tmod_eq_emod_of_nonneg (by omega)]; omega
          have hz9 : ¬ O.length = 0 := hz0
          obtain ⟨gz, off, hA, hjk⟩ := HT.out.z.toRds.ug hkl
          clear hjk
          obtain rfl : A' = some ⟨gz, off, none⟩ := hA
          have HXI := Lib.hid (List.getElem?_eq_getElem hkl)
          have HMM := Lib.hid (List.getElem_mem hkl)
          obtain ⟨x, hx⟩ : ∃ x, O[k] = x := ⟨_, rfl⟩
          rw [hx] at HXI HMM
          have HDUP := Lib.hid (fun (A9 : Option Addr) (c9 : Nat) (h : RightR (⟨t, v0, v1, v2, A9, O ++ [x], c9⟩ : Rw)) => dup_no h hkl hx)
          have hab : at_.toNat < 256 := at_.toNat_lt
          clear hx hk hz0
          go_wp2_with fail
          have HTd := Lib.hid HT.out.drew
          refine wp_region_held_drew (S := fun _ => True) (by kernel_rfl) trivial (fun hHeld => ?_)
          generalize w8.drew = Wd at *
          clear HT cn
          refine held_take 0 67 (.pointer (some ⟨n5, 4, none⟩)) rfl rfl (by kernel_rfl) (by kernel_rfl) (by kernel_rfl) (fun _ _ _ h => h) (by rfl) (by intro w' hSw; (try dsimp only at hSw); go_simp; (try (with_reducible rfl))) (by assumption) ?_
          simp only [Act.put, List.setIfInBounds_toArray, List.set_cons_zero, List.set_cons_succ]
          refine held_take 2 69 (.pointer (some ⟨n5, 4, none⟩)) rfl rfl (by kernel_rfl) (by kernel_rfl) (by kernel_rfl) (fun _ _ _ h => h) (by rfl) (by intro w' hSw; (try dsimp only at hSw); go_simp; (try (with_reducible rfl))) (by assumption) ?_
          simp only [Act.put, List.setIfInBounds_toArray, List.set_cons_zero, List.set_cons_succ]
          refine held_take 4 71 (.int .u8 at_.toNat) rfl rfl (by kernel_rfl) (by kernel_rfl) (by kernel_rfl) (fun _ _ _ h => h) (by rfl) (by intro w' hSw; (try dsimp only at hSw); go_simp; (try (with_reducible rfl))) (by assumption) ?_
          simp only [Act.put, List.setIfInBounds_toArray, List.set_cons_zero, List.set_cons_succ]
          refine held_take 5 72 (.int .i64 at_.toNat) rfl rfl (by kernel_rfl) (by kernel_rfl) (by kernel_rfl) (fun _ _ _ h => h) (by rfl) (by intro w' hSw; (try dsimp only at hSw); go_simp; (first | done | with_reducible rfl | (first | (rw [IntKind.wrap_i64]; omega) | (simp; omega)))) (by assumption) ?_
          simp only [Act.put, List.setIfInBounds_toArray, List.set_cons_zero, List.set_cons_succ]
          refine held_take 6 73 (.pointer (some ⟨n5, 4, none⟩)) rfl rfl (by kernel_rfl) (by kernel_rfl) (by kernel_rfl) (fun _ _ _ h => h) (by rfl) (by intro w' hSw; (try dsimp only at hSw); go_simp; (try (with_reducible rfl))) (by assumption) ?_
          simp only [Act.put, List.setIfInBounds_toArray, List.set_cons_zero, List.set_cons_succ]
          refine held_three 1 3 7 68 70 74 rfl rfl rfl (by kernel_rfl) (by rfl) (by rfl) (by rfl) (fun K hK => ?_) (fun K hK => ?_) (fun K hK => ?_)
          · have cs := HTd.out.n.cell
            go_simp
            refine hK _ _ trivial ?_
            clear hK K cs
            simp only [Act.put, List.setIfInBounds_toArray, List.set_cons_zero, List.set_cons_succ]
            refine held_twoD 3 7 70 74 rfl rfl rfl rfl (by kernel_rfl) (by rfl) (by rfl) (fun K hK => ?_) (fun K hK => ?_)
            · have cs := HTd.out.n.cell
              go_simp
              refine hK _ _ trivial ?_
              clear hK K cs
              simp only [Act.put, List.setIfInBounds_toArray, List.set_cons_zero, List.set_cons_succ]
              refine held_call 7 74 rfl rfl (by kernel_rfl) (by rfl) (fun K hK => ?_)
              have cs := HTd.out.n.cell
              go_simp
              refine hK _ _ trivial ?_
              clear hK K cs
              simp only [Act.put, List.setIfInBounds_toArray, List.set_cons_zero, List.set_cons_succ]
              refine held_take 8 75 (.int .i64 O.length) rfl rfl (by kernel_rfl) (by kernel_rfl) (by kernel_rfl) (fun _ _ _ h => h) (by rfl) (by intro w' hSw; (try dsimp only at hSw); go_simp; (try (with_reducible rfl))) (by assumption) ?_
              simp only [Act.put, List.setIfInBounds_toArray, List.set_cons_zero, List.set_cons_succ]
              refine held_take 9 76 (.int .i64 k) rfl rfl (by kernel_rfl) (by kernel_rfl) (by kernel_rfl) (fun _ _ _ h => h) (by rfl) (by intro w' hSw; (try dsimp only at hSw); go_simp; (first | done | with_reducible rfl | (first | (simp [em]; done) | (rw [em]; first | rfl | (rw [IntKind.wrap_i64]; omega)) | omega))) (by assumption) ?_
              simp only [Act.put, List.setIfInBounds_toArray, List.set_cons_zero, List.set_cons_succ]
              refine held_take 10 77 (.pointer (some ⟨gz, off + k * 4, none⟩)) rfl rfl (by kernel_rfl) (by kernel_rfl) (by kernel_rfl) (fun _ _ _ h => h) (by rfl) (by intro w' hSw; (try dsimp only at hSw); go_simp; (try (with_reducible rfl))) (by assumption) ?_
              simp only [Act.put, List.setIfInBounds_toArray, List.set_cons_zero, List.set_cons_succ]
              refine held_call 11 78 rfl rfl (by kernel_rfl) (by rfl) (fun K hK => ?_)
              obtain ⟨x0, x1, x2, x3⟩ := ug_cells HTd.out.z.toRds HXI.out
              go_simp
              refine hK _ _ trivial ?_
              clear hK K x0 x1 x2 x3
              simp only [Act.put, List.setIfInBounds_toArray, List.set_cons_zero, List.set_cons_succ]
              refine held_call 12 79 rfl rfl (by kernel_rfl) (by rfl) (fun K hK => ?_)
              go_simp
              refine hK _ _ trivial ?_
              clear hK K
              simp only [Act.put, List.setIfInBounds_toArray, List.set_cons_zero, List.set_cons_succ]
              have HTA := Lib.hid (HTd.out.alloc (.cells (⟨x.id, x.f0, x.f1, x.f2⟩ : Ug).cells 47))
              have HRW := Lib.hid (Rds.made Wd encG [x] 47 (⟨x.id, x.f0, x.f1, x.f2⟩ : Ug).cells (0, 0) rfl)
              refine held_call 13 80 rfl rfl (by kernel_rfl) (by rfl) (fun K hK => ?_)
              refine wp_app _ elemG encG (.tmp 68) (.tmp 79) rfl w.heap.size _ O (by simp [Act.eval]) HTA.out.z _ [x] 1 (by simp [Act.eval]) HRW.out (by simp; omega) (by simp; omega) HTA.out.q.bel.size ?_
              intro A3 k3 w9 ho hg _
              have HPS := Lib.hid (HTd.out.push hg (HTA.out.z.belowGrown HTA.out.q.bel hg (Nat.le_refl _) HTA.out.q.bel.size))
              have HO3 := Lib.hid (show Own w9 w.heap.size 47 encG (.slice A3 (O ++ [x]).length k3) (O ++ [x]) by rw [List.length_append]; exact ho)
              clear ho hg
              refine hK _ _ trivial ?_
              clear hK K
              simp only [Act.put, List.setIfInBounds_toArray, List.set_cons_zero, List.set_cons_succ]
              refine held_take 14 81 (.pointer (some ⟨n5, 4, none⟩)) rfl rfl (by kernel_rfl) (by kernel_rfl) (by kernel_rfl) (fun _ _ _ h => h) (by rfl) (by intro w' hSw; (try dsimp only at hSw); go_simp; (try (with_reducible rfl))) (by assumption) ?_
              simp only [Act.put, List.setIfInBounds_toArray, List.set_cons_zero, List.set_cons_succ]
              refine held_op 15 rfl (by kernel_rfl) (by rfl) (fun K hK => ?_)
              have cs := HPS.out.n.cell
              have fs := HPS.out.n.frozen
              go_simp
              refine hK undef _ trivial ?_
              clear hK K cs fs
              simp only [Act.put, List.setIfInBounds_toArray]
              refine wpAnyH_done (by kernel_rfl) ?_ _
              clear hHeld
              have HT2 : Hid (TQ t v0 v1 v2 A l c n5 A3 k3 (O ++ [x]) w (w9.setCell ⟨n5, 4, none⟩ (.slice A3 (O.length + 1) k3))) := Lib.hid (by have := HPS.out.stored HO3.out; rwa [List.length_append] at this)
              have HWX := Lib.hid (dup_wf (x := x) (A3 := A3) (k3 := k3) (HUO.out _ HTd.out.z.toRds) HMM.out HT2.out.z.toRds (by have := HT2.out.z.cap2; exact this))
              generalize w9.setCell ⟨n5, 4, none⟩ (.slice A3 (O.length + 1) k3) = wx at *
              have hl9 : (O ++ [x]).length = O.length + 1 := by rw [List.length_append]; rfl
              have cn5 : ∀ i, wx.cell? ⟨n5, i, none⟩ = (#[.int .i64 t, .float .f64 v0, .float .f64 v1, .float .f64 v2, .slice A3 (O.length + 1) k3] : Array Value)[i]? := by have := HT2.out.n.cell; rwa [hl9] at this
              go_wp2_with fail
              have HRX := sread_bar (rno (HDUP.out A3 k3)) wx HWX.out
              simp only [hl9] at HRX
              refine HRX.mono ?_; rintro e wy ⟨rfl, hb⟩
              have HT2 := Lib.hid (HT2.out.below hb)
              clear hb cn5 HRX
              go_wp2_with fail
              go_ret
              exact ⟨rfl, HT2.out.q.bel.alloc HT2.out.q.bel.size _⟩
            · have cs := HTd.out.n.cell
              go_simp
              refine hK _ _ trivial ?_
              clear hK K cs
              simp only [Act.put, List.setIfInBounds_toArray, List.set_cons_zero, List.set_cons_succ]
              refine held_take 8 75 (.int .i64 O.length) rfl rfl (by kernel_rfl) (by kernel_rfl) (by kernel_rfl) (fun _ _ _ h => h) (by rfl) (by intro w' hSw; (try dsimp only at hSw); go_simp; (try (with_reducible rfl))) (by assumption) ?_
              simp only [Act.put, List.setIfInBounds_toArray, List.set_cons_zero, List.set_cons_succ]
              refine held_take 9 76 (.int .i64 k) rfl rfl (by kernel_rfl) (by kernel_rfl) (by kernel_rfl) (fun _ _ _ h => h) (by rfl) (by intro w' hSw; (try dsimp only at hSw); go_simp; (first | done | with_reducible rfl | (first | (simp [em]; done) | (rw [em]; first | rfl | (rw [IntKind.wrap_i64]; omega)) | omega))) (by assumption) ?_
              simp only [Act.put, List.setIfInBounds_toArray, List.set_cons_zero, List.set_cons_succ]
              refine held_call 3 70 rfl rfl (by kernel_rfl) (by rfl) (fun K hK => ?_)
              have cs := HTd.out.n.cell
              go_simp
              refine hK _ _ trivial ?_
              clear hK K cs
              simp only [Act.put, List.setIfInBounds_toArray, List.set_cons_zero, List.set_cons_succ]
              refine held_take 10 77 (.pointer (some ⟨gz, off + k * 4, none⟩)) rfl rfl (by kernel_rfl) (by kernel_rfl) (by kernel_rfl) (fun _ _ _ h => h) (by rfl) (by intro w' hSw; (try dsimp only at hSw); go_simp; (try (with_reducible rfl))) (by assumption) ?_
              simp only [Act.put, List.setIfInBounds_toArray, List.set_cons_zero, List.set_cons_succ]
              refine held_call 11 78 rfl rfl (by kernel_rfl) (by rfl) (fun K hK => ?_)
              obtain ⟨x0, x1, x2, x3⟩ := ug_cells HTd.out.z.toRds HXI.out
              go_simp
              refine hK _ _ trivial ?_
              clear hK K x0 x1 x2 x3
              simp only [Act.put, List.setIfInBounds_toArray, List.set_cons_zero, List.set_cons_succ]
              refine held_call 12 79 rfl rfl (by kernel_rfl) (by rfl) (fun K hK => ?_)
              go_simp
              refine hK _ _ trivial ?_
              clear hK K
              simp only [Act.put, List.setIfInBounds_toArray, List.set_cons_zero, List.set_cons_succ]
              have HTA := Lib.hid (HTd.out.alloc (.cells (⟨x.id, x.f0, x.f1, x.f2⟩ : Ug).cells 47))
              have HRW := Lib.hid (Rds.made Wd encG [x] 47 (⟨x.id, x.f0, x.f1, x.f2⟩ : Ug).cells (0, 0) rfl)
              refine held_call 13 80 rfl rfl (by kernel_rfl) (by rfl) (fun K hK => ?_)
              refine wp_app _ elemG encG (.tmp 68) (.tmp 79) rfl w.heap.size _ O (by simp [Act.eval]) HTA.out.z _ [x] 1 (by simp [Act.eval]) HRW.out (by simp; omega) (by simp; omega) HTA.out.q.bel.size ?_
              intro A3 k3 w9 ho hg _
              have HPS := Lib.hid (HTd.out.push hg (HTA.out.z.belowGrown HTA.out.q.bel hg (Nat.le_refl _) HTA.out.q.bel.size))
              have HO3 := Lib.hid (show Own w9 w.heap.size 47 encG (.slice A3 (O ++ [x]).length k3) (O ++ [x]) by rw [List.length_append]; exact ho)
              clear ho hg
              refine hK _ _ trivial ?_
              clear hK K
              simp only [Act.put, List.setIfInBounds_toArray, List.set_cons_zero, List.set_cons_succ]
              refine held_take 14 81 (.pointer (some ⟨n5, 4, none⟩)) rfl rfl (by kernel_rfl) (by kernel_rfl) (by kernel_rfl) (fun _ _ _ h => h) (by rfl) (by intro w' hSw; (try dsimp only at hSw); go_simp; (try (with_reducible rfl))) (by assumption) ?_
              simp only [Act.put, List.setIfInBounds_toArray, List.set_cons_zero, List.set_cons_succ]
              refine held_op 15 rfl (by kernel_rfl) (by rfl) (fun K hK => ?_)
              have cs := HPS.out.n.cell
              have fs := HPS.out.n.frozen
              go_simp
              refine hK undef _ trivial ?_
              clear hK K cs fs
              simp only [Act.put, List.setIfInBounds_toArray]
              refine wpAnyH_done (by kernel_rfl) ?_ _
              clear hHeld
              have HT2 : Hid (TQ t v0 v1 v2 A l c n5 A3 k3 (O ++ [x]) w (w9.setCell ⟨n5, 4, none⟩ (.slice A3 (O.length + 1) k3))) := Lib.hid (by have := HPS.out.stored HO3.out; rwa [List.length_append] at this)
              have HWX := Lib.hid (dup_wf (x := x) (A3 := A3) (k3 := k3) (HUO.out _ HTd.out.z.toRds) HMM.out HT2.out.z.toRds (by have := HT2.out.z.cap2; exact this))
              generalize w9.setCell ⟨n5, 4, none⟩ (.slice A3 (O.length + 1) k3) = wx at *
              have hl9 : (O ++ [x]).length = O.length + 1 := by rw [List.length_append]; rfl
              have cn5 : ∀ i, wx.cell? ⟨n5, i, none⟩ = (#[.int .i64 t, .float .f64 v0, .float .f64 v1, .float .f64 v2, .slice A3 (O.length + 1) k3] : Array Value)[i]? := by have := HT2.out.n.cell; rwa [hl9] at this
              go_wp2_with fail
              have HRX := sread_bar (rno (HDUP.out A3 k3)) wx HWX.out
              simp only [hl9] at HRX
              refine HRX.mono ?_; rintro e wy ⟨rfl, hb⟩
              have HT2 := Lib.hid (HT2.out.below hb)
              clear hb cn5 HRX
              go_wp2_with fail
              go_ret
              exact ⟨rfl, HT2.out.q.bel.alloc HT2.out.q.bel.size _⟩
          · have cs := HTd.out.n.cell
            go_simp
            refine hK _ _ trivial ?_
            clear hK K cs
            simp only [Act.put, List.setIfInBounds_toArray, List.set_cons_zero, List.set_cons_succ]
            refine held_twoD 1 7 68 74 rfl rfl rfl rfl (by kernel_rfl) (by rfl) (by rfl) (fun K hK => ?_) (fun K hK => ?_)
            · have cs := HTd.out.n.cell
              go_simp
              refine hK _ _ trivial ?_
              clear hK K cs
              simp only [Act.put, List.setIfInBounds_toArray, List.set_cons_zero, List.set_cons_succ]
              refine held_call 7 74 rfl rfl (by kernel_rfl) (by rfl) (fun K hK => ?_)
              have cs := HTd.out.n.cell
              go_simp
              refine hK _ _ trivial ?_
              clear hK K cs
              simp only [Act.put, List.setIfInBounds_toArray, List.set_cons_zero, List.set_cons_succ]
              refine held_take 8 75 (.int .i64 O.length) rfl rfl (by kernel_rfl) (by kernel_rfl) (by kernel_rfl) (fun _ _ _ h => h) (by rfl) (by intro w' hSw; (try dsimp only at hSw); go_simp; (try (with_reducible rfl))) (by assumption) ?_
              simp only [Act.put, List.setIfInBounds_toArray, List.set_cons_zero, List.set_cons_succ]
              refine held_take 9 76 (.int .i64 k) rfl rfl (by kernel_rfl) (by kernel_rfl) (by kernel_rfl) (fun _ _ _ h => h) (by rfl) (by intro w' hSw; (try dsimp only at hSw); go_simp; (first | done | with_reducible rfl | (first | (simp [em]; done) | (rw [em]; first | rfl | (rw [IntKind.wrap_i64]; omega)) | omega))) (by assumption) ?_
              simp only [Act.put, List.setIfInBounds_toArray, List.set_cons_zero, List.set_cons_succ]
              refine held_take 10 77 (.pointer (some ⟨gz, off + k * 4, none⟩)) rfl rfl (by kernel_rfl) (by kernel_rfl) (by kernel_rfl) (fun _ _ _ h => h) (by rfl) (by intro w' hSw; (try dsimp only at hSw); go_simp; (try (with_reducible rfl))) (by assumption) ?_
              simp only [Act.put, List.setIfInBounds_toArray, List.set_cons_zero, List.set_cons_succ]
              refine held_call 11 78 rfl rfl (by kernel_rfl) (by rfl) (fun K hK => ?_)
              obtain ⟨x0, x1, x2, x3⟩ := ug_cells HTd.out.z.toRds HXI.out
              go_simp
              refine hK _ _ trivial ?_
              clear hK K x0 x1 x2 x3
              simp only [Act.put, List.setIfInBounds_toArray, List.set_cons_zero, List.set_cons_succ]
              refine held_call 12 79 rfl rfl (by kernel_rfl) (by rfl) (fun K hK => ?_)
              go_simp
              refine hK _ _ trivial ?_
              clear hK K
              simp only [Act.put, List.setIfInBounds_toArray, List.set_cons_zero, List.set_cons_succ]
              have HTA := Lib.hid (HTd.out.alloc (.cells (⟨x.id, x.f0, x.f1, x.f2⟩ : Ug).cells 47))
              have HRW := Lib.hid (Rds.made Wd encG [x] 47 (⟨x.id, x.f0, x.f1, x.f2⟩ : Ug).cells (0, 0) rfl)
              refine held_call 13 80 rfl rfl (by kernel_rfl) (by rfl) (fun K hK => ?_)
              refine wp_app _ elemG encG (.tmp 68) (.tmp 79) rfl w.heap.size _ O (by simp [Act.eval]) HTA.out.z _ [x] 1 (by simp [Act.eval]) HRW.out (by simp; omega) (by simp; omega) HTA.out.q.bel.size ?_
              intro A3 k3 w9 ho hg _
              have HPS := Lib.hid (HTd.out.push hg (HTA.out.z.belowGrown HTA.out.q.bel hg (Nat.le_refl _) HTA.out.q.bel.size))
              have HO3 := Lib.hid (show Own w9 w.heap.size 47 encG (.slice A3 (O ++ [x]).length k3) (O ++ [x]) by rw [List.length_append]; exact ho)
              clear ho hg
              refine hK _ _ trivial ?_
              clear hK K
              simp only [Act.put, List.setIfInBounds_toArray, List.set_cons_zero, List.set_cons_succ]
              refine held_take 14 81 (.pointer (some ⟨n5, 4, none⟩)) rfl rfl (by kernel_rfl) (by kernel_rfl) (by kernel_rfl) (fun _ _ _ h => h) (by rfl) (by intro w' hSw; (try dsimp only at hSw); go_simp; (try (with_reducible rfl))) (by assumption) ?_
              simp only [Act.put, List.setIfInBounds_toArray, List.set_cons_zero, List.set_cons_succ]
              refine held_op 15 rfl (by kernel_rfl) (by rfl) (fun K hK => ?_)
              have cs := HPS.out.n.cell
              have fs := HPS.out.n.frozen
              go_simp
              refine hK undef _ trivial ?_
              clear hK K cs fs
              simp only [Act.put, List.setIfInBounds_toArray]
              refine wpAnyH_done (by kernel_rfl) ?_ _
              clear hHeld
              have HT2 : Hid (TQ t v0 v1 v2 A l c n5 A3 k3 (O ++ [x]) w (w9.setCell ⟨n5, 4, none⟩ (.slice A3 (O.length + 1) k3))) := Lib.hid (by have := HPS.out.stored HO3.out; rwa [List.length_append] at this)
              have HWX := Lib.hid (dup_wf (x := x) (A3 := A3) (k3 := k3) (HUO.out _ HTd.out.z.toRds) HMM.out HT2.out.z.toRds (by have := HT2.out.z.cap2; exact this))
              generalize w9.setCell ⟨n5, 4, none⟩ (.slice A3 (O.length + 1) k3) = wx at *
              have hl9 : (O ++ [x]).length = O.length + 1 := by rw [List.length_append]; rfl
              have cn5 : ∀ i, wx.cell? ⟨n5, i, none⟩ = (#[.int .i64 t, .float .f64 v0, .float .f64 v1, .float .f64 v2, .slice A3 (O.length + 1) k3] : Array Value)[i]? := by have := HT2.out.n.cell; rwa [hl9] at this
              go_wp2_with fail
              have HRX := sread_bar (rno (HDUP.out A3 k3)) wx HWX.out
              simp only [hl9] at HRX
              refine HRX.mono ?_; rintro e wy ⟨rfl, hb⟩
              have HT2 := Lib.hid (HT2.out.below hb)
              clear hb cn5 HRX
              go_wp2_with fail
              go_ret
              exact ⟨rfl, HT2.out.q.bel.alloc HT2.out.q.bel.size _⟩
            · have cs := HTd.out.n.cell
              go_simp
              refine hK _ _ trivial ?_
              clear hK K cs
              simp only [Act.put, List.setIfInBounds_toArray, List.set_cons_zero, List.set_cons_succ]
              refine held_take 8 75 (.int .i64 O.length) rfl rfl (by kernel_rfl) (by kernel_rfl) (by kernel_rfl) (fun _ _ _ h => h) (by rfl) (by intro w' hSw; (try dsimp only at hSw); go_simp; (try (with_reducible rfl))) (by assumption) ?_
              simp only [Act.put, List.setIfInBounds_toArray, List.set_cons_zero, List.set_cons_succ]
              refine held_take 9 76 (.int .i64 k) rfl rfl (by kernel_rfl) (by kernel_rfl) (by kernel_rfl) (fun _ _ _ h => h) (by rfl) (by intro w' hSw; (try dsimp only at hSw); go_simp; (first | done | with_reducible rfl | (first | (simp [em]; done) | (rw [em]; first | rfl | (rw [IntKind.wrap_i64]; omega)) | omega))) (by assumption) ?_
              simp only [Act.put, List.setIfInBounds_toArray, List.set_cons_zero, List.set_cons_succ]
              refine held_take 10 77 (.pointer (some ⟨gz, off + k * 4, none⟩)) rfl rfl (by kernel_rfl) (by kernel_rfl) (by kernel_rfl) (fun _ _ _ h => h) (by rfl) (by intro w' hSw; (try dsimp only at hSw); go_simp; (try (with_reducible rfl))) (by assumption) ?_
              simp only [Act.put, List.setIfInBounds_toArray, List.set_cons_zero, List.set_cons_succ]
              refine held_twoD 1 11 68 78 rfl rfl rfl rfl (by kernel_rfl) (by rfl) (by rfl) (fun K hK => ?_) (fun K hK => ?_)
              · have cs := HTd.out.n.cell
                go_simp
                refine hK _ _ trivial ?_
                clear hK K cs
                simp only [Act.put, List.setIfInBounds_toArray, List.set_cons_zero, List.set_cons_succ]
                refine held_call 11 78 rfl rfl (by kernel_rfl) (by rfl) (fun K hK => ?_)
                obtain ⟨x0, x1, x2, x3⟩ := ug_cells HTd.out.z.toRds HXI.out
                go_simp
                refine hK _ _ trivial ?_
                clear hK K x0 x1 x2 x3
                simp only [Act.put, List.setIfInBounds_toArray, List.set_cons_zero, List.set_cons_succ]
                refine held_call 12 79 rfl rfl (by kernel_rfl) (by rfl) (fun K hK => ?_)
                go_simp
                refine hK _ _ trivial ?_
                clear hK K
                simp only [Act.put, List.setIfInBounds_toArray, List.set_cons_zero, List.set_cons_succ]
                have HTA := Lib.hid (HTd.out.alloc (.cells (⟨x.id, x.f0, x.f1, x.f2⟩ : Ug).cells 47))
                have HRW := Lib.hid (Rds.made Wd encG [x] 47 (⟨x.id, x.f0, x.f1, x.f2⟩ : Ug).cells (0, 0) rfl)
                refine held_call 13 80 rfl rfl (by kernel_rfl) (by rfl) (fun K hK => ?_)
                refine wp_app _ elemG encG (.tmp 68) (.tmp 79) rfl w.heap.size _ O (by simp [Act.eval]) HTA.out.z _ [x] 1 (by simp [Act.eval]) HRW.out (by simp; omega) (by simp; omega) HTA.out.q.bel.size ?_
                intro A3 k3 w9 ho hg _
                have HPS := Lib.hid (HTd.out.push hg (HTA.out.z.belowGrown HTA.out.q.bel hg (Nat.le_refl _) HTA.out.q.bel.size))
                have HO3 := Lib.hid (show Own w9 w.heap.size 47 encG (.slice A3 (O ++ [x]).length k3) (O ++ [x]) by rw [List.length_append]; exact ho)
                clear ho hg
                refine hK _ _ trivial ?_
                clear hK K
                simp only [Act.put, List.setIfInBounds_toArray, List.set_cons_zero, List.set_cons_succ]
                refine held_take 14 81 (.pointer (some ⟨n5, 4, none⟩)) rfl rfl (by kernel_rfl) (by kernel_rfl) (by kernel_rfl) (fun _ _ _ h => h) (by rfl) (by intro w' hSw; (try dsimp only at hSw); go_simp; (try (with_reducible rfl))) (by assumption) ?_
                simp only [Act.put, List.setIfInBounds_toArray, List.set_cons_zero, List.set_cons_succ]
                refine held_op 15 rfl (by kernel_rfl) (by rfl) (fun K hK => ?_)
                have cs := HPS.out.n.cell
                have fs := HPS.out.n.frozen
                go_simp
                refine hK undef _ trivial ?_
                clear hK K cs fs
                simp only [Act.put, List.setIfInBounds_toArray]
                refine wpAnyH_done (by kernel_rfl) ?_ _
                clear hHeld
                have HT2 : Hid (TQ t v0 v1 v2 A l c n5 A3 k3 (O ++ [x]) w (w9.setCell ⟨n5, 4, none⟩ (.slice A3 (O.length + 1) k3))) := Lib.hid (by have := HPS.out.stored HO3.out; rwa [List.length_append] at this)
                have HWX := Lib.hid (dup_wf (x := x) (A3 := A3) (k3 := k3) (HUO.out _ HTd.out.z.toRds) HMM.out HT2.out.z.toRds (by have := HT2.out.z.cap2; exact this))
                generalize w9.setCell ⟨n5, 4, none⟩ (.slice A3 (O.length + 1) k3) = wx at *
                have hl9 : (O ++ [x]).length = O.length + 1 := by rw [List.length_append]; rfl
                have cn5 : ∀ i, wx.cell? ⟨n5, i, none⟩ = (#[.int .i64 t, .float .f64 v0, .float .f64 v1, .float .f64 v2, .slice A3 (O.length + 1) k3] : Array Value)[i]? := by have := HT2.out.n.cell; rwa [hl9] at this
                go_wp2_with fail
                have HRX := sread_bar (rno (HDUP.out A3 k3)) wx HWX.out
                simp only [hl9] at HRX
                refine HRX.mono ?_; rintro e wy ⟨rfl, hb⟩
                have HT2 := Lib.hid (HT2.out.below hb)
                clear hb cn5 HRX
                go_wp2_with fail
                go_ret
                exact ⟨rfl, HT2.out.q.bel.alloc HT2.out.q.bel.size _⟩
              · obtain ⟨x0, x1, x2, x3⟩ := ug_cells HTd.out.z.toRds HXI.out
                go_simp
                refine hK _ _ trivial ?_
                clear hK K x0 x1 x2 x3
                simp only [Act.put, List.setIfInBounds_toArray, List.set_cons_zero, List.set_cons_succ]
                refine held_twoD 1 12 68 79 rfl rfl rfl rfl (by kernel_rfl) (by rfl) (by rfl) (fun K hK => ?_) (fun K hK => ?_)
                · have cs := HTd.out.n.cell
                  go_simp
                  refine hK _ _ trivial ?_
                  clear hK K cs
                  simp only [Act.put, List.setIfInBounds_toArray, List.set_cons_zero, List.set_cons_succ]
                  refine held_call 12 79 rfl rfl (by kernel_rfl) (by rfl) (fun K hK => ?_)
                  go_simp
                  refine hK _ _ trivial ?_
                  clear hK K
                  simp only [Act.put, List.setIfInBounds_toArray, List.set_cons_zero, List.set_cons_succ]
                  have HTA := Lib.hid (HTd.out.alloc (.cells (⟨x.id, x.f0, x.f1, x.f2⟩ : Ug).cells 47))
                  have HRW := Lib.hid (Rds.made Wd encG [x] 47 (⟨x.id, x.f0, x.f1, x.f2⟩ : Ug).cells (0, 0) rfl)
                  refine held_call 13 80 rfl rfl (by kernel_rfl) (by rfl) (fun K hK => ?_)
                  refine wp_app _ elemG encG (.tmp 68) (.tmp 79) rfl w.heap.size _ O (by simp [Act.eval]) HTA.out.z _ [x] 1 (by simp [Act.eval]) HRW.out (by simp; omega) (by simp; omega) HTA.out.q.bel.size ?_
                  intro A3 k3 w9 ho hg _
                  have HPS := Lib.hid (HTd.out.push hg (HTA.out.z.belowGrown HTA.out.q.bel hg (Nat.le_refl _) HTA.out.q.bel.size))
                  have HO3 := Lib.hid (show Own w9 w.heap.size 47 encG (.slice A3 (O ++ [x]).length k3) (O ++ [x]) by rw [List.length_append]; exact ho)
                  clear ho hg
                  refine hK _ _ trivial ?_
                  clear hK K
                  simp only [Act.put, List.setIfInBounds_toArray, List.set_cons_zero, List.set_cons_succ]
                  refine held_take 14 81 (.pointer (some ⟨n5, 4, none⟩)) rfl rfl (by kernel_rfl) (by kernel_rfl) (by kernel_rfl) (fun _ _ _ h => h) (by rfl) (by intro w' hSw; (try dsimp only at hSw); go_simp; (try (with_reducible rfl))) (by assumption) ?_
                  simp only [Act.put, List.setIfInBounds_toArray, List.set_cons_zero, List.set_cons_succ]
                  refine held_op 15 rfl (by kernel_rfl) (by rfl) (fun K hK => ?_)
                  have cs := HPS.out.n.cell
                  have fs := HPS.out.n.frozen
                  go_simp
                  refine hK undef _ trivial ?_
                  clear hK K cs fs
                  simp only [Act.put, List.setIfInBounds_toArray]
                  refine wpAnyH_done (by kernel_rfl) ?_ _
                  clear hHeld
                  have HT2 : Hid (TQ t v0 v1 v2 A l c n5 A3 k3 (O ++ [x]) w (w9.setCell ⟨n5, 4, none⟩ (.slice A3 (O.length + 1) k3))) := Lib.hid (by have := HPS.out.stored HO3.out; rwa [List.length_append] at this)
                  have HWX := Lib.hid (dup_wf (x := x) (A3 := A3) (k3 := k3) (HUO.out _ HTd.out.z.toRds) HMM.out HT2.out.z.toRds (by have := HT2.out.z.cap2; exact this))
                  generalize w9.setCell ⟨n5, 4, none⟩ (.slice A3 (O.length + 1) k3) = wx at *
                  have hl9 : (O ++ [x]).length = O.length + 1 := by rw [List.length_append]; rfl
                  have cn5 : ∀ i, wx.cell? ⟨n5, i, none⟩ = (#[.int .i64 t, .float .f64 v0, .float .f64 v1, .float .f64 v2, .slice A3 (O.length + 1) k3] : Array Value)[i]? := by have := HT2.out.n.cell; rwa [hl9] at this
                  go_wp2_with fail
                  have HRX := sread_bar (rno (HDUP.out A3 k3)) wx HWX.out
                  simp only [hl9] at HRX
                  refine HRX.mono ?_; rintro e wy ⟨rfl, hb⟩
                  have HT2 := Lib.hid (HT2.out.below hb)
                  clear hb cn5 HRX
                  go_wp2_with fail
                  go_ret
                  exact ⟨rfl, HT2.out.q.bel.alloc HT2.out.q.bel.size _⟩
                · go_simp
                  refine hK _ _ trivial ?_
                  clear hK K
                  simp only [Act.put, List.setIfInBounds_toArray, List.set_cons_zero, List.set_cons_succ]
                  have HTA := Lib.hid (HTd.out.alloc (.cells (⟨x.id, x.f0, x.f1, x.f2⟩ : Ug).cells 47))
                  have HRW := Lib.hid (Rds.made Wd encG [x] 47 (⟨x.id, x.f0, x.f1, x.f2⟩ : Ug).cells (0, 0) rfl)
                  refine held_call 1 68 rfl rfl (by kernel_rfl) (by rfl) (fun K hK => ?_)
                  have cs := HTA.out.n.cell
                  go_simp
                  refine hK _ _ trivial ?_
                  clear hK K cs
                  simp only [Act.put, List.setIfInBounds_toArray, List.set_cons_zero, List.set_cons_succ]
                  refine held_call 13 80 rfl rfl (by kernel_rfl) (by rfl) (fun K hK => ?_)
                  refine wp_app _ elemG encG (.tmp 68) (.tmp 79) rfl w.heap.size _ O (by simp [Act.eval]) HTA.out.z _ [x] 1 (by simp [Act.eval]) HRW.out (by simp; omega) (by simp; omega) HTA.out.q.bel.size ?_
                  intro A3 k3 w9 ho hg _
                  have HPS := Lib.hid (HTd.out.push hg (HTA.out.z.belowGrown HTA.out.q.bel hg (Nat.le_refl _) HTA.out.q.bel.size))
                  have HO3 := Lib.hid (show Own w9 w.heap.size 47 encG (.slice A3 (O ++ [x]).length k3) (O ++ [x]) by rw [List.length_append]; exact ho)
                  clear ho hg
                  refine hK _ _ trivial ?_
                  clear hK K
                  simp only [Act.put, List.setIfInBounds_toArray, List.set_cons_zero, List.set_cons_succ]
                  refine held_take 14 81 (.pointer (some ⟨n5, 4, none⟩)) rfl rfl (by kernel_rfl) (by kernel_rfl) (by kernel_rfl) (fun _ _ _ h => h) (by rfl) (by intro w' hSw; (try dsimp only at hSw); go_simp; (try (with_reducible rfl))) (by assumption) ?_
                  simp only [Act.put, List.setIfInBounds_toArray, List.set_cons_zero, List.set_cons_succ]
                  refine held_op 15 rfl (by kernel_rfl) (by rfl) (fun K hK => ?_)
                  have cs := HPS.out.n.cell
                  have fs := HPS.out.n.frozen
                  go_simp
                  refine hK undef _ trivial ?_
                  clear hK K cs fs
                  simp only [Act.put, List.setIfInBounds_toArray]
                  refine wpAnyH_done (by kernel_rfl) ?_ _
                  clear hHeld
                  have HT2 : Hid (TQ t v0 v1 v2 A l c n5 A3 k3 (O ++ [x]) w (w9.setCell ⟨n5, 4, none⟩ (.slice A3 (O.length + 1) k3))) := Lib.hid (by have := HPS.out.stored HO3.out; rwa [List.length_append] at this)
                  have HWX := Lib.hid (dup_wf (x := x) (A3 := A3) (k3 := k3) (HUO.out _ HTd.out.z.toRds) HMM.out HT2.out.z.toRds (by have := HT2.out.z.cap2; exact this))
                  generalize w9.setCell ⟨n5, 4, none⟩ (.slice A3 (O.length + 1) k3) = wx at *
                  have hl9 : (O ++ [x]).length = O.length + 1 := by rw [List.length_append]; rfl
                  have cn5 : ∀ i, wx.cell? ⟨n5, i, none⟩ = (#[.int .i64 t, .float .f64 v0, .float .f64 v1, .float .f64 v2, .slice A3 (O.length + 1) k3] : Array Value)[i]? := by have := HT2.out.n.cell; rwa [hl9] at this
                  go_wp2_with fail
                  have HRX := sread_bar (rno (HDUP.out A3 k3)) wx HWX.out
                  simp only [hl9] at HRX
                  refine HRX.mono ?_; rintro e wy ⟨rfl, hb⟩
                  have HT2 := Lib.hid (HT2.out.below hb)
                  clear hb cn5 HRX
                  go_wp2_with fail
                  go_ret
                  exact ⟨rfl, HT2.out.q.bel.alloc HT2.out.q.bel.size _⟩
          · have cs := HTd.out.n.cell
            go_simp
            refine hK _ _ trivial ?_
            clear hK K cs
            simp only [Act.put, List.setIfInBounds_toArray, List.set_cons_zero, List.set_cons_succ]
            refine held_take 8 75 (.int .i64 O.length) rfl rfl (by kernel_rfl) (by kernel_rfl) (by kernel_rfl) (fun _ _ _ h => h) (by rfl) (by intro w' hSw; (try dsimp only at hSw); go_simp; (try (with_reducible rfl))) (by assumption) ?_
            simp only [Act.put, List.setIfInBounds_toArray, List.set_cons_zero, List.set_cons_succ]
            refine held_take 9 76 (.int .i64 k) rfl rfl (by kernel_rfl) (by kernel_rfl) (by kernel_rfl) (fun _ _ _ h => h) (by rfl) (by intro w' hSw; (try dsimp only at hSw); go_simp; (first | done | with_reducible rfl | (first | (simp [em]; done) | (rw [em]; first | rfl | (rw [IntKind.wrap_i64]; omega)) | omega))) (by assumption) ?_
            simp only [Act.put, List.setIfInBounds_toArray, List.set_cons_zero, List.set_cons_succ]
            refine held_twoD 1 3 68 70 rfl rfl rfl rfl (by kernel_rfl) (by rfl) (by rfl) (fun K hK => ?_) (fun K hK => ?_)
            · have cs := HTd.out.n.cell
              go_simp
              refine hK _ _ trivial ?_
              clear hK K cs
              simp only [Act.put, List.setIfInBounds_toArray, List.set_cons_zero, List.set_cons_succ]
              refine held_call 3 70 rfl rfl (by kernel_rfl) (by rfl) (fun K hK => ?_)
              have cs := HTd.out.n.cell
              go_simp
              refine hK _ _ trivial ?_
              clear hK K cs
              simp only [Act.put, List.setIfInBounds_toArray, List.set_cons_zero, List.set_cons_succ]
              refine held_take 10 77 (.pointer (some ⟨gz, off + k * 4, none⟩)) rfl rfl (by kernel_rfl) (by kernel_rfl) (by kernel_rfl) (fun _ _ _ h => h) (by rfl) (by intro w' hSw; (try dsimp only at hSw); go_simp; (try (with_reducible rfl))) (by assumption) ?_
              simp only [Act.put, List.setIfInBounds_toArray, List.set_cons_zero, List.set_cons_succ]
              refine held_call 11 78 rfl rfl (by kernel_rfl) (by rfl) (fun K hK => ?_)
              obtain ⟨x0, x1, x2, x3⟩ := ug_cells HTd.out.z.toRds HXI.out
              go_simp
              refine hK _ _ trivial ?_
              clear hK K x0 x1 x2 x3
              simp only [Act.put, List.setIfInBounds_toArray, List.set_cons_zero, List.set_cons_succ]
              refine held_call 12 79 rfl rfl (by kernel_rfl) (by rfl) (fun K hK => ?_)
              go_simp
              refine hK _ _ trivial ?_
              clear hK K
              simp only [Act.put, List.setIfInBounds_toArray, List.set_cons_zero, List.set_cons_succ]
              have HTA := Lib.hid (HTd.out.alloc (.cells (⟨x.id, x.f0, x.f1, x.f2⟩ : Ug).cells 47))
              have HRW := Lib.hid (Rds.made Wd encG [x] 47 (⟨x.id, x.f0, x.f1, x.f2⟩ : Ug).cells (0, 0) rfl)
              refine held_call 13 80 rfl rfl (by kernel_rfl) (by rfl) (fun K hK => ?_)
              refine wp_app _ elemG encG (.tmp 68) (.tmp 79) rfl w.heap.size _ O (by simp [Act.eval]) HTA.out.z _ [x] 1 (by simp [Act.eval]) HRW.out (by simp; omega) (by simp; omega) HTA.out.q.bel.size ?_
              intro A3 k3 w9 ho hg _
              have HPS := Lib.hid (HTd.out.push hg (HTA.out.z.belowGrown HTA.out.q.bel hg (Nat.le_refl _) HTA.out.q.bel.size))
              have HO3 := Lib.hid (show Own w9 w.heap.size 47 encG (.slice A3 (O ++ [x]).length k3) (O ++ [x]) by rw [List.length_append]; exact ho)
              clear ho hg
              refine hK _ _ trivial ?_
              clear hK K
              simp only [Act.put, List.setIfInBounds_toArray, List.set_cons_zero, List.set_cons_succ]
              refine held_take 14 81 (.pointer (some ⟨n5, 4, none⟩)) rfl rfl (by kernel_rfl) (by kernel_rfl) (by kernel_rfl) (fun _ _ _ h => h) (by rfl) (by intro w' hSw; (try dsimp only at hSw); go_simp; (try (with_reducible rfl))) (by assumption) ?_
              simp only [Act.put, List.setIfInBounds_toArray, List.set_cons_zero, List.set_cons_succ]
              refine held_op 15 rfl (by kernel_rfl) (by rfl) (fun K hK => ?_)
              have cs := HPS.out.n.cell
              have fs := HPS.out.n.frozen
              go_simp
              refine hK undef _ trivial ?_
              clear hK K cs fs
              simp only [Act.put, List.setIfInBounds_toArray]
              refine wpAnyH_done (by kernel_rfl) ?_ _
              clear hHeld
              have HT2 : Hid (TQ t v0 v1 v2 A l c n5 A3 k3 (O ++ [x]) w (w9.setCell ⟨n5, 4, none⟩ (.slice A3 (O.length + 1) k3))) := Lib.hid (by have := HPS.out.stored HO3.out; rwa [List.length_append] at this)
              have HWX := Lib.hid (dup_wf (x := x) (A3 := A3) (k3 := k3) (HUO.out _ HTd.out.z.toRds) HMM.out HT2.out.z.toRds (by have := HT2.out.z.cap2; exact this))
              generalize w9.setCell ⟨n5, 4, none⟩ (.slice A3 (O.length + 1) k3) = wx at *
              have hl9 : (O ++ [x]).length = O.length + 1 := by rw [List.length_append]; rfl
              have cn5 : ∀ i, wx.cell? ⟨n5, i, none⟩ = (#[.int .i64 t, .float .f64 v0, .float .f64 v1, .float .f64 v2, .slice A3 (O.length + 1) k3] : Array Value)[i]? := by have := HT2.out.n.cell; rwa [hl9] at this
              go_wp2_with fail
              have HRX := sread_bar (rno (HDUP.out A3 k3)) wx HWX.out
              simp only [hl9] at HRX
              refine HRX.mono ?_; rintro e wy ⟨rfl, hb⟩
              have HT2 := Lib.hid (HT2.out.below hb)
              clear hb cn5 HRX
              go_wp2_with fail
              go_ret
              exact ⟨rfl, HT2.out.q.bel.alloc HT2.out.q.bel.size _⟩
            · have cs := HTd.out.n.cell
              go_simp
              refine hK _ _ trivial ?_
              clear hK K cs
              simp only [Act.put, List.setIfInBounds_toArray, List.set_cons_zero, List.set_cons_succ]
              refine held_take 10 77 (.pointer (some ⟨gz, off + k * 4, none⟩)) rfl rfl (by kernel_rfl) (by kernel_rfl) (by kernel_rfl) (fun _ _ _ h => h) (by rfl) (by intro w' hSw; (try dsimp only at hSw); go_simp; (try (with_reducible rfl))) (by assumption) ?_
              simp only [Act.put, List.setIfInBounds_toArray, List.set_cons_zero, List.set_cons_succ]
              refine held_twoD 1 11 68 78 rfl rfl rfl rfl (by kernel_rfl) (by rfl) (by rfl) (fun K hK => ?_) (fun K hK => ?_)
              · have cs := HTd.out.n.cell
                go_simp
                refine hK _ _ trivial ?_
                clear hK K cs
                simp only [Act.put, List.setIfInBounds_toArray, List.set_cons_zero, List.set_cons_succ]
                refine held_call 11 78 rfl rfl (by kernel_rfl) (by rfl) (fun K hK => ?_)
                obtain ⟨x0, x1, x2, x3⟩ := ug_cells HTd.out.z.toRds HXI.out
                go_simp
                refine hK _ _ trivial ?_
                clear hK K x0 x1 x2 x3
                simp only [Act.put, List.setIfInBounds_toArray, List.set_cons_zero, List.set_cons_succ]
                refine held_call 12 79 rfl rfl (by kernel_rfl) (by rfl) (fun K hK => ?_)
                go_simp
                refine hK _ _ trivial ?_
                clear hK K
                simp only [Act.put, List.setIfInBounds_toArray, List.set_cons_zero, List.set_cons_succ]
                have HTA := Lib.hid (HTd.out.alloc (.cells (⟨x.id, x.f0, x.f1, x.f2⟩ : Ug).cells 47))
                have HRW := Lib.hid (Rds.made Wd encG [x] 47 (⟨x.id, x.f0, x.f1, x.f2⟩ : Ug).cells (0, 0) rfl)
                refine held_call 13 80 rfl rfl (by kernel_rfl) (by rfl) (fun K hK => ?_)
                refine wp_app _ elemG encG (.tmp 68) (.tmp 79) rfl w.heap.size _ O (by simp [Act.eval]) HTA.out.z _ [x] 1 (by simp [Act.eval]) HRW.out (by simp; omega) (by simp; omega) HTA.out.q.bel.size ?_
                intro A3 k3 w9 ho hg _
                have HPS := Lib.hid (HTd.out.push hg (HTA.out.z.belowGrown HTA.out.q.bel hg (Nat.le_refl _) HTA.out.q.bel.size))
                have HO3 := Lib.hid (show Own w9 w.heap.size 47 encG (.slice A3 (O ++ [x]).length k3) (O ++ [x]) by rw [List.length_append]; exact ho)
                clear ho hg
                refine hK _ _ trivial ?_
                clear hK K
                simp only [Act.put, List.setIfInBounds_toArray, List.set_cons_zero, List.set_cons_succ]
                refine held_take 14 81 (.pointer (some ⟨n5, 4, none⟩)) rfl rfl (by kernel_rfl) (by kernel_rfl) (by kernel_rfl) (fun _ _ _ h => h) (by rfl) (by intro w' hSw; (try dsimp only at hSw); go_simp; (try (with_reducible rfl))) (by assumption) ?_
                simp only [Act.put, List.setIfInBounds_toArray, List.set_cons_zero, List.set_cons_succ]
                refine held_op 15 rfl (by kernel_rfl) (by rfl) (fun K hK => ?_)
                have cs := HPS.out.n.cell
                have fs := HPS.out.n.frozen
                go_simp
                refine hK undef _ trivial ?_
                clear hK K cs fs
                simp only [Act.put, List.setIfInBounds_toArray]
                refine wpAnyH_done (by kernel_rfl) ?_ _
                clear hHeld
                have HT2 : Hid (TQ t v0 v1 v2 A l c n5 A3 k3 (O ++ [x]) w (w9.setCell ⟨n5, 4, none⟩ (.slice A3 (O.length + 1) k3))) := Lib.hid (by have := HPS.out.stored HO3.out; rwa [List.length_append] at this)
                have HWX := Lib.hid (dup_wf (x := x) (A3 := A3) (k3 := k3) (HUO.out _ HTd.out.z.toRds) HMM.out HT2.out.z.toRds (by have := HT2.out.z.cap2; exact this))
                generalize w9.setCell ⟨n5, 4, none⟩ (.slice A3 (O.length + 1) k3) = wx at *
                have hl9 : (O ++ [x]).length = O.length + 1 := by rw [List.length_append]; rfl
                have cn5 : ∀ i, wx.cell? ⟨n5, i, none⟩ = (#[.int .i64 t, .float .f64 v0, .float .f64 v1, .float .f64 v2, .slice A3 (O.length + 1) k3] : Array Value)[i]? := by have := HT2.out.n.cell; rwa [hl9] at this
                go_wp2_with fail
                have HRX := sread_bar (rno (HDUP.out A3 k3)) wx HWX.out
                simp only [hl9] at HRX
                refine HRX.mono ?_; rintro e wy ⟨rfl, hb⟩
                have HT2 := Lib.hid (HT2.out.below hb)
                clear hb cn5 HRX
                go_wp2_with fail
                go_ret
                exact ⟨rfl, HT2.out.q.bel.alloc HT2.out.q.bel.size _⟩
              · obtain ⟨x0, x1, x2, x3⟩ := ug_cells HTd.out.z.toRds HXI.out
                go_simp
                refine hK _ _ trivial ?_
                clear hK K x0 x1 x2 x3
                simp only [Act.put, List.setIfInBounds_toArray, List.set_cons_zero, List.set_cons_succ]
                refine held_twoD 1 12 68 79 rfl rfl rfl rfl (by kernel_rfl) (by rfl) (by rfl) (fun K hK => ?_) (fun K hK => ?_)
                · have cs := HTd.out.n.cell
                  go_simp
                  refine hK _ _ trivial ?_
                  clear hK K cs
                  simp only [Act.put, List.setIfInBounds_toArray, List.set_cons_zero, List.set_cons_succ]
                  refine held_call 12 79 rfl rfl (by kernel_rfl) (by rfl) (fun K hK => ?_)
                  go_simp
                  refine hK _ _ trivial ?_
                  clear hK K
                  simp only [Act.put, List.setIfInBounds_toArray, List.set_cons_zero, List.set_cons_succ]
                  have HTA := Lib.hid (HTd.out.alloc (.cells (⟨x.id, x.f0, x.f1, x.f2⟩ : Ug).cells 47))
                  have HRW := Lib.hid (Rds.made Wd encG [x] 47 (⟨x.id, x.f0, x.f1, x.f2⟩ : Ug).cells (0, 0) rfl)
                  refine held_call 13 80 rfl rfl (by kernel_rfl) (by rfl) (fun K hK => ?_)
                  refine wp_app _ elemG encG (.tmp 68) (.tmp 79) rfl w.heap.size _ O (by simp [Act.eval]) HTA.out.z _ [x] 1 (by simp [Act.eval]) HRW.out (by simp; omega) (by simp; omega) HTA.out.q.bel.size ?_
                  intro A3 k3 w9 ho hg _
                  have HPS := Lib.hid (HTd.out.push hg (HTA.out.z.belowGrown HTA.out.q.bel hg (Nat.le_refl _) HTA.out.q.bel.size))
                  have HO3 := Lib.hid (show Own w9 w.heap.size 47 encG (.slice A3 (O ++ [x]).length k3) (O ++ [x]) by rw [List.length_append]; exact ho)
                  clear ho hg
                  refine hK _ _ trivial ?_
                  clear hK K
                  simp only [Act.put, List.setIfInBounds_toArray, List.set_cons_zero, List.set_cons_succ]
                  refine held_take 14 81 (.pointer (some ⟨n5, 4, none⟩)) rfl rfl (by kernel_rfl) (by kernel_rfl) (by kernel_rfl) (fun _ _ _ h => h) (by rfl) (by intro w' hSw; (try dsimp only at hSw); go_simp; (try (with_reducible rfl))) (by assumption) ?_
                  simp only [Act.put, List.setIfInBounds_toArray, List.set_cons_zero, List.set_cons_succ]
                  refine held_op 15 rfl (by kernel_rfl) (by rfl) (fun K hK => ?_)
                  have cs := HPS.out.n.cell
                  have fs := HPS.out.n.frozen
                  go_simp
                  refine hK undef _ trivial ?_
                  clear hK K cs fs
                  simp only [Act.put, List.setIfInBounds_toArray]
                  refine wpAnyH_done (by kernel_rfl) ?_ _
                  clear hHeld
                  have HT2 : Hid (TQ t v0 v1 v2 A l c n5 A3 k3 (O ++ [x]) w (w9.setCell ⟨n5, 4, none⟩ (.slice A3 (O.length + 1) k3))) := Lib.hid (by have := HPS.out.stored HO3.out; rwa [List.length_append] at this)
                  have HWX := Lib.hid (dup_wf (x := x) (A3 := A3) (k3 := k3) (HUO.out _ HTd.out.z.toRds) HMM.out HT2.out.z.toRds (by have := HT2.out.z.cap2; exact this))
                  generalize w9.setCell ⟨n5, 4, none⟩ (.slice A3 (O.length + 1) k3) = wx at *
                  have hl9 : (O ++ [x]).length = O.length + 1 := by rw [List.length_append]; rfl
                  have cn5 : ∀ i, wx.cell? ⟨n5, i, none⟩ = (#[.int .i64 t, .float .f64 v0, .float .f64 v1, .float .f64 v2, .slice A3 (O.length + 1) k3] : Array Value)[i]? := by have := HT2.out.n.cell; rwa [hl9] at this
                  go_wp2_with fail
                  have HRX := sread_bar (rno (HDUP.out A3 k3)) wx HWX.out
                  simp only [hl9] at HRX
                  refine HRX.mono ?_; rintro e wy ⟨rfl, hb⟩
                  have HT2 := Lib.hid (HT2.out.below hb)
                  clear hb cn5 HRX
                  go_wp2_with fail
                  go_ret
                  exact ⟨rfl, HT2.out.q.bel.alloc HT2.out.q.bel.size _⟩
                · go_simp
                  refine hK _ _ trivial ?_
                  clear hK K
                  simp only [Act.put, List.setIfInBounds_toArray, List.set_cons_zero, List.set_cons_succ]
                  have HTA := Lib.hid (HTd.out.alloc (.cells (⟨x.id, x.f0, x.f1, x.f2⟩ : Ug).cells 47))
                  have HRW := Lib.hid (Rds.made Wd encG [x] 47 (⟨x.id, x.f0, x.f1, x.f2⟩ : Ug).cells (0, 0) rfl)
                  refine held_call 1 68 rfl rfl (by kernel_rfl) (by rfl) (fun K hK => ?_)
                  have cs := HTA.out.n.cell
                  go_simp
                  refine hK _ _ trivial ?_
                  clear hK K cs
                  simp only [Act.put, List.setIfInBounds_toArray, List.set_cons_zero, List.set_cons_succ]
                  refine held_call 13 80 rfl rfl (by kernel_rfl) (by rfl) (fun K hK => ?_)
                  refine wp_app _ elemG encG (.tmp 68) (.tmp 79) rfl w.heap.size _ O (by simp [Act.eval]) HTA.out.z _ [x] 1 (by simp [Act.eval]) HRW.out (by simp; omega) (by simp; omega) HTA.out.q.bel.size ?_
                  intro A3 k3 w9 ho hg _
                  have HPS := Lib.hid (HTd.out.push hg (HTA.out.z.belowGrown HTA.out.q.bel hg (Nat.le_refl _) HTA.out.q.bel.size))
                  have HO3 := Lib.hid (show Own w9 w.heap.size 47 encG (.slice A3 (O ++ [x]).length k3) (O ++ [x]) by rw [List.length_append]; exact ho)
                  clear ho hg
                  refine hK _ _ trivial ?_
                  clear hK K
                  simp only [Act.put, List.setIfInBounds_toArray, List.set_cons_zero, List.set_cons_succ]
                  refine held_take 14 81 (.pointer (some ⟨n5, 4, none⟩)) rfl rfl (by kernel_rfl) (by kernel_rfl) (by kernel_rfl) (fun _ _ _ h => h) (by rfl) (by intro w' hSw; (try dsimp only at hSw); go_simp; (try (with_reducible rfl))) (by assumption) ?_
                  simp only [Act.put, List.setIfInBounds_toArray, List.set_cons_zero, List.set_cons_succ]
                  refine held_op 15 rfl (by kernel_rfl) (by rfl) (fun K hK => ?_)
                  have cs := HPS.out.n.cell
                  have fs := HPS.out.n.frozen
                  go_simp
                  refine hK undef _ trivial ?_
                  clear hK K cs fs
                  simp only [Act.put, List.setIfInBounds_toArray]
                  refine wpAnyH_done (by kernel_rfl) ?_ _
                  clear hHeld
                  have HT2 : Hid (TQ t v0 v1 v2 A l c n5 A3 k3 (O ++ [x]) w (w9.setCell ⟨n5, 4, none⟩ (.slice A3 (O.length + 1) k3))) := Lib.hid (by have := HPS.out.stored HO3.out; rwa [List.length_append] at this)
                  have HWX := Lib.hid (dup_wf (x := x) (A3 := A3) (k3 := k3) (HUO.out _ HTd.out.z.toRds) HMM.out HT2.out.z.toRds (by have := HT2.out.z.cap2; exact this))
                  generalize w9.setCell ⟨n5, 4, none⟩ (.slice A3 (O.length + 1) k3) = wx at *
                  have hl9 : (O ++ [x]).length = O.length + 1 := by rw [List.length_append]; rfl
                  have cn5 : ∀ i, wx.cell? ⟨n5, i, none⟩ = (#[.int .i64 t, .float .f64 v0, .float .f64 v1, .float .f64 v2, .slice A3 (O.length + 1) k3] : Array Value)[i]? := by have := HT2.out.n.cell; rwa [hl9] at this
                  go_wp2_with fail
                  have HRX := sread_bar (rno (HDUP.out A3 k3)) wx HWX.out
                  simp only [hl9] at HRX
                  refine HRX.mono ?_; rintro e wy ⟨rfl, hb⟩
                  have HT2 := Lib.hid (HT2.out.below hb)
                  clear hb cn5 HRX
                  go_wp2_with fail
                  go_ret
                  exact ⟨rfl, HT2.out.q.bel.alloc HT2.out.q.bel.size _⟩
end Go.Proofs.YtampjkgkiooibaaDoor
