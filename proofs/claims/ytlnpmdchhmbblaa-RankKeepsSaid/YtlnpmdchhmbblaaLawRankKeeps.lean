/- bilgelaw20.RankKeeps: what is handed in stays; what is answered is new memory. -/
import Derived.Test.YtlnpmdchhmbblaaRankTab
import Derived.Test.YtlnpmdchhmbblaaSame17
import Derived.Test.YtlnpmdchhmbblaaHeldOp
namespace Go.Proofs.Ytlnpmdchhmbblaa
open Go.RowKit
theorem SB.cells5 {s : Sp} {n : Nat} {W : World} (h : SB s n W) : W.cell? ⟨n, 0, none⟩ = some (.int .i64 s.time) ∧ W.cell? ⟨n, 1, none⟩ = some (.int .i64 s.v0) ∧ W.cell? ⟨n, 2, none⟩ = some (.int .i64 s.v1) ∧ W.cell? ⟨n, 3, none⟩ = some (.int .i64 s.v2) ∧ W.cell? ⟨n, 4, none⟩ = some (.slice s.A s.uses.length s.c) := ⟨h.smp.cell 0, h.smp.cell 1, h.smp.cell 2, h.smp.cell 3, h.smp.cell 4⟩
theorem szE : (Try.prog.info? 48).map (·.size) = some 12 := by kernel_rfl
abbrev zEn : En := ⟨⟨⟨#[]⟩, 0, false, 0, 0, 0, 0, 0, 0, ⟨#[]⟩, 0⟩, 0⟩
def zTo (l : List En) (i : Nat) : List En := List.replicate i zEn ++ l.drop i
theorem zTo_len (l : List En) (i : Nat) (h : i ≤ l.length) : (zTo l i).length = l.length := by unfold zTo; rw [List.length_append, List.length_replicate, List.length_drop]; omega
theorem zTo_at (l : List En) (i : Nat) (h : i < l.length) : (zTo l i)[i]? = some l[i] := by
  unfold zTo
  rw [List.getElem?_append_right (by simp), List.length_replicate, Nat.sub_self, List.getElem?_drop]
  simp [List.getElem?_eq_getElem h]
theorem zTo_set (l : List En) (i : Nat) (h : i < l.length) : (zTo l i).set i zEn = zTo l (i + 1) := by
  unfold zTo
  rw [List.set_append_right _ _ (by simp), List.length_replicate, Nat.sub_self, List.drop_eq_getElem_cons h, List.set_cons_zero, List.replicate_succ', List.append_assoc]; rfl
theorem zTo_zero (l : List En) : zTo l 0 = l := by unfold zTo; simp
/-- a copy of the sample in a box of its own -/
structure CB (s : Sp) (N : Nat) (At : Option Addr) (ct : Nat) (W : World) : Prop where
  box : Blk W N 36 #[.int .i64 s.time, .int .i64 s.v0, .int .i64 s.v1, .int .i64 s.v2, .slice At s.uses.length ct]
  rds : Rds W encU At s.uses
theorem own_apartT2 {w : World} {b1 b2 : Nat} {e1 e2 : TypeId} {α β : Type} {s1 s2 : Nat} {E1 : Enc α s1} {E2 : Enc β s2} {v1 : Value} {g c m : Nat} {l1 : List α} {l2 : List β} (h1 : Own w b1 e1 E1 v1 l1) (h2 : Own w b2 e2 E2 (.slice (some ⟨g, 0, none⟩) m c) l2) (he : e1 ≠ e2) : v1.ownBlock = none ∨ v1.ownBlock ≠ some g := by
  have := own_apartT h1 h2 he
  simpa [Value.ownBlock] using this
theorem below_r {w w0 w' : World} (h0 : Below w.heap.size w w0) (hb : Below w0.heap.size w0 w') : Below w.heap.size w w' := h0.trans (hb.mono h0.size)
theorem elemU2 : Elem Try.prog 34 33 4 40 := elemU
set_option maxRecDepth 100000 in
set_option maxHeartbeats 4000000 in
theorem rankKeeps_any (n : UInt8) (l : List En) (A : Option Addr) (c : Nat) (r : Rw) (w : World) (ht : Rds w encN A l) (hw : ∀ x ∈ l, x.pod.Wf ∧ I64 x.phase) (hm : l.length ≤ 9223372036854775807) (hr : r.Wf w) :
    Calls Try.prog 10 #[.int .u8 n.toNat, .slice A l.length c, .agg r.cells] w fun e w' => e = .returned (.bool true) ∧ Below w.heap.size w w' := by
  have mixed : Try.prog.follows Departure.mixedOrders = true := by kernel_rfl
  have HQ := Lib.hid (OT.new l A r w hr ht)
  have HW := Lib.hid hw
  clear hw hr ht
  go_enter Try.func10, Try.ntmps10
  go_wp2_with fail
  refine (awake20_any _).mono ?_; rintro e w1 ⟨rfl, hb⟩
  have HQ := Lib.hid (HQ.out.below hb)
  clear hb
  
  by_cases hft : FitE l
  rotate_left
  · go_wp2_with fail
    refine (fitN_any hft HQ.out.tb HW.out hm).mono ?_; rintro e wv ⟨rfl, hb⟩
    have HQ := Lib.hid (HQ.out.below hb)
    clear hb 
    clear hft
    go_wp2_with fail
    refine (awake20_any _).mono ?_; rintro e w9 ⟨rfl, hb⟩
    have HQ := Lib.hid (HQ.out.below hb)
    clear hb
    go_wp2_with fail
    go_ret
    exact ⟨rfl, HQ.out.bel⟩
  · go_wp2_with fail
    refine (fitY_any hft HQ.out.tb HW.out hm).mono ?_; rintro e wv ⟨rfl, hb⟩
    have HQ := Lib.hid (HQ.out.below hb)
    clear hb 
    have Hhft := Lib.hid hft
    clear hft
    have crw := HQ.out.rw.cell
    cases hfr : fewR r.uses
    · go_wp2_with fail
      refine (fewW_any hfr HQ.out.wf).mono ?_; rintro e wv ⟨rfl, hb⟩
      have HQ := Lib.hid (HQ.out.below hb)
      clear hb crw
      clear hfr
      go_wp2_with fail
      refine (awake20_any _).mono ?_; rintro e w9 ⟨rfl, hb⟩
      have HQ := Lib.hid (HQ.out.below hb)
      clear hb
      go_wp2_with fail
      go_ret
      exact ⟨rfl, HQ.out.bel⟩
    · go_wp2_with fail
      refine (fewW_any hfr HQ.out.wf).mono ?_; rintro e wv ⟨rfl, hb⟩
      have HQ := Lib.hid (HQ.out.below hb)
      clear hb crw
      have Hhfr := Lib.hid hfr
      clear hfr
      have crw := HQ.out.rw.cell
      by_cases hr : RightR r
      rotate_left
      · go_wp2_with fail
        refine (rightN_any hr HQ.out.wf).mono ?_; rintro e wv ⟨rfl, hb⟩
        have HQ := Lib.hid (HQ.out.below hb)
        clear hb crw
        clear hr
        go_wp2_with fail
        refine (awake20_any _).mono ?_; rintro e w9 ⟨rfl, hb⟩
        have HQ := Lib.hid (HQ.out.below hb)
        clear hb
        go_wp2_with fail
        go_ret
        exact ⟨rfl, HQ.out.bel⟩
      · go_wp2_with fail
        refine (rightY_any hr HQ.out.wf).mono ?_; rintro e wv ⟨rfl, hb⟩
        have HQ := Lib.hid (HQ.out.below hb)
        clear hb crw
        have Hhr := Lib.hid hr
        clear hr
        obtain ⟨k, hk⟩ : ∃ k : Int, (n.toNat : Int) % 3 = k := ⟨_, rfl⟩
        have HKK : Hid (k = 0 ∨ k = 1 ∨ k = 2) := by show _ ∨ _; rw [← hk]; exact signal_cases n
        have HSG := Lib.hid (fun W => signalV hk W)
        clear hk
        obtain ⟨V0, HV0⟩ : ∃ V, Hid (readN r.v0 = V) := ⟨_, Lib.hid rfl⟩
        obtain ⟨V1, HV1⟩ : ∃ V, Hid (readN r.v1 = V) := ⟨_, Lib.hid rfl⟩
        obtain ⟨V2, HV2⟩ : ∃ V, Hid (readN r.v2 = V) := ⟨_, Lib.hid rfl⟩
        obtain ⟨us, HUS⟩ : ∃ us, Hid (readUses r.uses = us) := ⟨_, Lib.hid rfl⟩
        have HU : Hid (UsOk k us) := by show UsOk k us; rw [← HUS.out]; exact usOk_raw Hhr.out k
        go_wp2_with fail
        refine (HSG.out _).mono ?_; rintro e wk ⟨rfl, rfl⟩
        have crw := HQ.out.rw.cell
        go_wp2_with fail
        refine (readW_any HV0.out HV1.out HV2.out HUS.out Hhr.out HQ.out.wf).mono ?_; rintro e wr ⟨AU, cU, rfl, hO, hb⟩
        have HQ := Lib.hid (HQ.out.below hb)
        have HRU := Lib.hid hO.toRds
        clear hb hO crw HSG HV0 HV1 HV2 HUS
        have HTB := Lib.hid (Tb.of Hhft.out HW.out)
        have hlen : l.length ≤ 64 := Hhft.out.len
        have HQ := Lib.hid (HQ.out.alloc (.cells #[.int .i64 r.time, .int .i64 V0, .int .i64 V1, .int .i64 V2, .slice AU us.length cU] 36))
        have HS : Hid (SB (⟨r.time, V0, V1, V2, AU, us, cU⟩ : Sp) wr.heap.size (wr.alloc (.cells #[.int .i64 r.time, .int .i64 V0, .int .i64 V1, .int .i64 V2, .slice AU us.length cU] 36))) := SB.new (⟨r.time, V0, V1, V2, AU, us, cU⟩ : Sp) wr HRU.out
        clear HRU
        obtain ⟨O, HO⟩ : ∃ O, Hid (orderD k l us = O) := ⟨_, Lib.hid rfl⟩
        have hOl : O.length ≤ 64 := by rw [← HO.out]; exact Nat.le_trans (orderD_le k l us) hlen
        go_wp2_with (at_builtin; refine wl_copy elemN encN rfl (.tmp 35) (.tmp 36) rfl (by simp [Act.eval]) A l c rfl HQ.out.tb (by omega) (by omega) ?_; intro Ao co w3 ho hb; have HOWN := Lib.hid ho; have HB3 := Lib.hid hb; clear ho hb)
        generalize (wr.alloc (.cells #[.int .i64 r.time, .int .i64 V0, .int .i64 V1, .int .i64 V2, .slice AU us.length cU] 36)) = W2 at *
        generalize wr.heap.size = n at *
        have HQ0 := HQ
        have HS0 := HS
        have hul : us.length ≤ 100000 := HU.out.len
        have HSd := Lib.hid ((HS.out.below HB3.out).drew)
        have HQ3 := Lib.hid (HQ.out.below HB3.out)
        go_cut [10] (fun v W => ∃ (N : Nat) (At : Option Addr) (ct : Nat), v = .pointer (some ⟨N, 0, none⟩) ∧ CB (⟨r.time, V0, V1, V2, AU, us, cU⟩ : Sp) N At ct W ∧ Below w3.heap.size w3 W)
        case first =>
          have HB3d : Hid (Below w3.heap.size w3 w3.drew) := (Below.refl _ _).drew
          refine wp_region_held_drew (S := (fun w' => w'.cell? ⟨n, 0, none⟩ = some (.int .i64 r.time) ∧ w'.cell? ⟨n, 1, none⟩ = some (.int .i64 V0) ∧ w'.cell? ⟨n, 2, none⟩ = some (.int .i64 V1) ∧ w'.cell? ⟨n, 3, none⟩ = some (.int .i64 V2) ∧ w'.cell? ⟨n, 4, none⟩ = some (.slice AU us.length cU))) (by kernel_rfl) (HSd.out.cells5) (fun hHeld => ?_)
          generalize w3.drew = W3d at *
          have hB0 : Below W3d.heap.size W3d W3d := Below.refl _ _
          refine held_take 0 38 (.pointer (some ⟨n, 0, none⟩)) rfl rfl (by kernel_rfl) (by kernel_rfl) (by kernel_rfl) (fun _ _ _ h => h) (by rfl) (by intro w' hSw; (try dsimp only at hSw); go_simp; (try (with_reducible rfl))) (by assumption) ?_
          simp only [Act.put, List.setIfInBounds_toArray, List.set_cons_zero, List.set_cons_succ]
          refine held_take 1 39 (.int .i64 r.time) rfl rfl (by kernel_rfl) (by kernel_rfl) (by kernel_rfl) (fun _ _ _ h => h) (by rfl) (by intro w' hSw; (try dsimp only at hSw); go_simp; (try (with_reducible rfl))) (by assumption) ?_
          simp only [Act.put, List.setIfInBounds_toArray, List.set_cons_zero, List.set_cons_succ]
          refine held_take 2 40 (.pointer (some ⟨n, 1, none⟩)) rfl rfl (by kernel_rfl) (by kernel_rfl) (by kernel_rfl) (fun _ _ _ h => h) (by rfl) (by intro w' hSw; (try dsimp only at hSw); go_simp; (try (with_reducible rfl))) (by assumption) ?_
          simp only [Act.put, List.setIfInBounds_toArray, List.set_cons_zero, List.set_cons_succ]
          refine held_take 3 41 (.agg #[.int .i64 V0, .int .i64 V1, .int .i64 V2]) rfl rfl (by kernel_rfl) (by kernel_rfl) (by kernel_rfl) (fun _ _ _ h => h) (by rfl) (by intro w' hSw; (try dsimp only at hSw); go_simp; (try (with_reducible rfl))) (by assumption) ?_
          simp only [Act.put, List.setIfInBounds_toArray, List.set_cons_zero, List.set_cons_succ]
          refine held_take 5 43 (.pointer (some ⟨n, 4, none⟩)) rfl rfl (by kernel_rfl) (by kernel_rfl) (by kernel_rfl) (fun _ _ _ h => h) (by rfl) (by intro w' hSw; (try dsimp only at hSw); go_simp; (try (with_reducible rfl))) (by assumption) ?_
          simp only [Act.put, List.setIfInBounds_toArray, List.set_cons_zero, List.set_cons_succ]
          refine held_take 6 44 (.slice AU us.length cU) rfl rfl (by kernel_rfl) (by kernel_rfl) (by kernel_rfl) (fun _ _ _ h => h) (by rfl) (by intro w' hSw; (try dsimp only at hSw); go_simp; (try (with_reducible rfl))) (by assumption) ?_
          simp only [Act.put, List.setIfInBounds_toArray, List.set_cons_zero, List.set_cons_succ]
          have HB0 := Lib.hid hB0
          clear hB0
          have HU0 := Lib.hid HSd.out.rds
          refine held_two 4 9 rfl rfl (by kernel_rfl) (by rfl) (by rfl) (fun K hK => ?_) (fun K hK => ?_)
          · go_simp
            refine hK _ _ (SB.cells5 (HSd.out.alloc (.cells #[] 33))) ?_
            have hHeld := SB.cells5 (HSd.out.alloc (.cells #[] 33))
            clear hK K
            simp only [Act.put, List.setIfInBounds_toArray, List.set_cons_zero, List.set_cons_succ]
            have HS1 := Lib.hid (HSd.out.alloc (.cells #[] 33))
            have HB1 := Lib.hid (HB0.out.alloc HB0.out.size (.cells #[] 33))
            have HO1 := Lib.hid (Own.made W3d W3d.heap.size 33 encU [] #[] rfl HB0.out.size (by simp))
            have HU1 := Lib.hid (HU0.out.alloc (.cells #[] 33))
            refine held_two 7 9 rfl rfl (by kernel_rfl) (by rfl) (by rfl) (fun K hK => ?_) (fun K hK => ?_)
            · refine wp_app _ elemU encU (.tmp 42) (.tmp 44) rfl W3d.heap.size _ [] (by simp [Act.eval]) HO1.out AU us cU (by simp [Act.eval]) HU1.out (by simp; omega) (by simp; omega) HB1.out.size ?_
              intro At ct w4 ho hg _
              rw [List.length_nil, Nat.zero_add, List.nil_append] at ho
              rw [List.length_nil, Nat.zero_add]
              have hb4 := HO1.out.belowGrown HB1.out hg (Nat.le_refl _) HB1.out.size
              have HR2 := Lib.hid ho
              have HB2 := Lib.hid hb4
              have HS2 := Lib.hid (HSd.out.below hb4)
              clear ho hg hb4
              refine hK _ _ (SB.cells5 HS2.out) ?_
              have hHeld := SB.cells5 HS2.out
              clear hK K
              simp only [Act.put, List.setIfInBounds_toArray, List.set_cons_zero, List.set_cons_succ]
              refine held_take 8 46 (.agg #[.int .i64 r.time, .int .i64 V0, .int .i64 V1, .int .i64 V2, .slice At us.length ct]) rfl rfl (by kernel_rfl) (by kernel_rfl) (by kernel_rfl) (fun _ _ _ h => h) (by rfl) (by intro w' hSw; (try dsimp only at hSw); go_simp; (try (with_reducible rfl))) (by assumption) ?_
              simp only [Act.put, List.setIfInBounds_toArray, List.set_cons_zero, List.set_cons_succ]
              refine held_op 9 rfl (by kernel_rfl) (by rfl) (fun K hK => ?_)
              go_simp
              refine hK _ _ (SB.cells5 (HS2.out.alloc (.cells #[.int .i64 0, .int .i64 0, .int .i64 0, .int .i64 0, .slice none 0 0] 36))) ?_
              have hHeld := SB.cells5 (HS2.out.alloc (.cells #[.int .i64 0, .int .i64 0, .int .i64 0, .int .i64 0, .slice none 0 0] 36))
              clear hK K
              simp only [Act.put, List.setIfInBounds_toArray, List.set_cons_zero, List.set_cons_succ]
              have HS3 := Lib.hid (HS2.out.alloc (.cells #[.int .i64 0, .int .i64 0, .int .i64 0, .int .i64 0, .slice none 0 0] 36))
              have HB3 := Lib.hid (HB2.out.alloc HB2.out.size (.cells #[.int .i64 0, .int .i64 0, .int .i64 0, .int .i64 0, .slice none 0 0] 36))
              have HN3 : Hid (Blk (w4.alloc (.cells #[.int .i64 0, .int .i64 0, .int .i64 0, .int .i64 0, .slice none 0 0] 36)) (w4.heap.size) 36 #[.int .i64 0, .int .i64 0, .int .i64 0, .int .i64 0, .slice none 0 0]) := by
                have h := Blk.new w4 36 #[.int .i64 0, .int .i64 0, .int .i64 0, .int .i64 0, .slice none 0 0]
                exact Lib.hid (by simpa using h)
              have HU3 := Lib.hid (HU1.out.alloc (.cells #[.int .i64 0, .int .i64 0, .int .i64 0, .int .i64 0, .slice none 0 0] 36))
              have HR3 := Lib.hid (HR2.out.alloc (.cells #[.int .i64 0, .int .i64 0, .int .i64 0, .int .i64 0, .slice none 0 0] 36))
              have nc0 := HN3.out.cell 0
              have nc1 := HN3.out.cell 1
              have nc2 := HN3.out.cell 2
              have nc3 := HN3.out.cell 3
              have nc4 := HN3.out.cell 4
              simp only [List.getElem?_toArray, List.getElem?_cons_zero, List.getElem?_cons_succ] at nc0 nc1 nc2 nc3 nc4
              have nf0 := HN3.out.frozen 0
              have nf1 := HN3.out.frozen 1
              have nf2 := HN3.out.frozen 2
              have nf3 := HN3.out.frozen 3
              have nf4 := HN3.out.frozen 4
              refine held_op 10 rfl (by kernel_rfl) (by rfl) (fun K hK => ?_)
              go_simp
              refine hK undef _ (SB.cells5 (HS2.out.alloc (.cells #[.int .i64 r.time, .int .i64 V0, .int .i64 V1, .int .i64 V2, .slice At us.length ct] 36))) ?_
              clear hK K
              simp only [Act.put, List.setIfInBounds_toArray, List.set_cons_zero, List.set_cons_succ]
              refine wpAnyH_done (by kernel_rfl) ?_ _
              go_wp2_with fail
              go_meet
              exact ⟨w4.heap.size, At, ct, rfl, ⟨Blk.new _ _ _, (HR2.out.alloc _).toRds⟩, below_r HB3d.out (HB2.out.alloc HB2.out.size _)⟩
            · go_simp
              refine hK _ _ (SB.cells5 (HS1.out.alloc (.cells #[.int .i64 0, .int .i64 0, .int .i64 0, .int .i64 0, .slice none 0 0] 36))) ?_
              have hHeld := SB.cells5 (HS1.out.alloc (.cells #[.int .i64 0, .int .i64 0, .int .i64 0, .int .i64 0, .slice none 0 0] 36))
              clear hK K
              simp only [Act.put, List.setIfInBounds_toArray, List.set_cons_zero, List.set_cons_succ]
              have HS2 := Lib.hid (HS1.out.alloc (.cells #[.int .i64 0, .int .i64 0, .int .i64 0, .int .i64 0, .slice none 0 0] 36))
              have HB2 := Lib.hid (HB1.out.alloc HB1.out.size (.cells #[.int .i64 0, .int .i64 0, .int .i64 0, .int .i64 0, .slice none 0 0] 36))
              have HN2 : Hid (Blk ((W3d.alloc (.cells #[] 33)).alloc (.cells #[.int .i64 0, .int .i64 0, .int .i64 0, .int .i64 0, .slice none 0 0] 36)) (W3d.heap.size + 1) 36 #[.int .i64 0, .int .i64 0, .int .i64 0, .int .i64 0, .slice none 0 0]) := by
                have h := Blk.new (W3d.alloc (.cells #[] 33)) 36 #[.int .i64 0, .int .i64 0, .int .i64 0, .int .i64 0, .slice none 0 0]
                exact Lib.hid (by simpa using h)
              have HU2 := Lib.hid (HU1.out.alloc (.cells #[.int .i64 0, .int .i64 0, .int .i64 0, .int .i64 0, .slice none 0 0] 36))
              have HO2 := Lib.hid (HO1.out.alloc (.cells #[.int .i64 0, .int .i64 0, .int .i64 0, .int .i64 0, .slice none 0 0] 36))
              refine held_op 7 rfl (by kernel_rfl) (by rfl) (fun K hK => ?_)
              refine wp_app _ elemU encU (.tmp 42) (.tmp 44) rfl W3d.heap.size _ [] (by simp [Act.eval]) HO2.out AU us cU (by simp [Act.eval]) HU2.out (by simp; omega) (by simp; omega) HB2.out.size ?_
              intro At ct w4 ho hg _
              rw [List.length_nil, Nat.zero_add, List.nil_append] at ho
              rw [List.length_nil, Nat.zero_add]
              have hb4 := HO2.out.belowGrown HB2.out hg (Nat.le_refl _) HB2.out.size
              have HR3 := Lib.hid ho
              have HB3 := Lib.hid hb4
              have HS3 := Lib.hid (HSd.out.below hb4)
              have HN3 := Lib.hid (HN2.out.grown hg (HO2.out.ne_blk HN2.out (by decide)))
              clear ho hg hb4
              refine hK _ _ (SB.cells5 HS3.out) ?_
              have hHeld := SB.cells5 HS3.out
              clear hK K
              simp only [Act.put, List.setIfInBounds_toArray, List.set_cons_zero, List.set_cons_succ]
              refine held_take 8 46 (.agg #[.int .i64 r.time, .int .i64 V0, .int .i64 V1, .int .i64 V2, .slice At us.length ct]) rfl rfl (by kernel_rfl) (by kernel_rfl) (by kernel_rfl) (fun _ _ _ h => h) (by rfl) (by intro w' hSw; (try dsimp only at hSw); go_simp; (try (with_reducible rfl))) (by assumption) ?_
              simp only [Act.put, List.setIfInBounds_toArray, List.set_cons_zero, List.set_cons_succ]
              have nc0 := HN3.out.cell 0
              have nc1 := HN3.out.cell 1
              have nc2 := HN3.out.cell 2
              have nc3 := HN3.out.cell 3
              have nc4 := HN3.out.cell 4
              simp only [List.getElem?_toArray, List.getElem?_cons_zero, List.getElem?_cons_succ] at nc0 nc1 nc2 nc3 nc4
              have nf0 := HN3.out.frozen 0
              have nf1 := HN3.out.frozen 1
              have nf2 := HN3.out.frozen 2
              have nf3 := HN3.out.frozen 3
              have nf4 := HN3.out.frozen 4
              have NBB : Hid (W3d.heap.size ≤ W3d.heap.size + 1) := Lib.hid (by have := HB1.out.size; simp at this; omega : W3d.heap.size ≤ W3d.heap.size + 1)
              have NN : Hid (n ≠ W3d.heap.size + 1) := by
                have h1 := HSd.out.smp.lt
                have h2 := NBB.out
                show n ≠ W3d.heap.size + 1
                omega
              have HSF := Lib.hid (((((HS3.out.smp.far (p := ⟨W3d.heap.size + 1, 0, none⟩) NN.out (.int .i64 r.time)).far (p := ⟨W3d.heap.size + 1, 1, none⟩) NN.out (.int .i64 V0)).far (p := ⟨W3d.heap.size + 1, 2, none⟩) NN.out (.int .i64 V1)).far (p := ⟨W3d.heap.size + 1, 3, none⟩) NN.out (.int .i64 V2)).far (p := ⟨W3d.heap.size + 1, 4, none⟩) NN.out (.slice At us.length ct))
              refine held_op 10 rfl (by kernel_rfl) (by rfl) (fun K hK => ?_)
              go_simp
              refine hK undef _ (⟨HSF.out.cell 0, HSF.out.cell 1, HSF.out.cell 2, HSF.out.cell 3, HSF.out.cell 4⟩) ?_
              clear hK K
              simp only [Act.put, List.setIfInBounds_toArray, List.set_cons_zero, List.set_cons_succ]
              refine wpAnyH_done (by kernel_rfl) ?_ _
              go_wp2_with fail
              go_meet
              have e5 := (((((HN3.out.set_ 0 (.int .i64 r.time)).set_ 1 (.int .i64 V0)).set_ 2 (.int .i64 V1)).set_ 3 (.int .i64 V2)).set_ 4 (.slice At us.length ct))
              have b5 := (((((HB3.out.setCell (p := ⟨W3d.heap.size + 1, 0, none⟩) NBB.out (.int .i64 r.time)).setCell (p := ⟨W3d.heap.size + 1, 1, none⟩) NBB.out (.int .i64 V0)).setCell (p := ⟨W3d.heap.size + 1, 2, none⟩) NBB.out (.int .i64 V1)).setCell (p := ⟨W3d.heap.size + 1, 3, none⟩) NBB.out (.int .i64 V2)).setCell (p := ⟨W3d.heap.size + 1, 4, none⟩) NBB.out (.slice At us.length ct))
              have r5 := (((((HR3.out.setFar HN3.out (by decide) 0 (.int .i64 r.time)).setFar (HN3.out.set_ 0 (.int .i64 r.time)) (by decide) 1 (.int .i64 V0)).setFar ((HN3.out.set_ 0 (.int .i64 r.time)).set_ 1 (.int .i64 V0)) (by decide) 2 (.int .i64 V1)).setFar (((HN3.out.set_ 0 (.int .i64 r.time)).set_ 1 (.int .i64 V0)).set_ 2 (.int .i64 V1)) (by decide) 3 (.int .i64 V2)).setFar ((((HN3.out.set_ 0 (.int .i64 r.time)).set_ 1 (.int .i64 V0)).set_ 2 (.int .i64 V1)).set_ 3 (.int .i64 V2)) (by decide) 4 (.slice At us.length ct))
              exact ⟨W3d.heap.size + 1, At, ct, rfl, ⟨by simpa using e5, r5.toRds⟩, below_r HB3d.out b5⟩
          · go_simp
            refine hK _ _ (SB.cells5 (HSd.out.alloc (.cells #[.int .i64 0, .int .i64 0, .int .i64 0, .int .i64 0, .slice none 0 0] 36))) ?_
            have hHeld := SB.cells5 (HSd.out.alloc (.cells #[.int .i64 0, .int .i64 0, .int .i64 0, .int .i64 0, .slice none 0 0] 36))
            clear hK K
            simp only [Act.put, List.setIfInBounds_toArray, List.set_cons_zero, List.set_cons_succ]
            have HS1 := Lib.hid (HSd.out.alloc (.cells #[.int .i64 0, .int .i64 0, .int .i64 0, .int .i64 0, .slice none 0 0] 36))
            have HB1 := Lib.hid (HB0.out.alloc HB0.out.size (.cells #[.int .i64 0, .int .i64 0, .int .i64 0, .int .i64 0, .slice none 0 0] 36))
            have HN1 : Hid (Blk (W3d.alloc (.cells #[.int .i64 0, .int .i64 0, .int .i64 0, .int .i64 0, .slice none 0 0] 36)) (W3d.heap.size) 36 #[.int .i64 0, .int .i64 0, .int .i64 0, .int .i64 0, .slice none 0 0]) := by
              have h := Blk.new W3d 36 #[.int .i64 0, .int .i64 0, .int .i64 0, .int .i64 0, .slice none 0 0]
              exact Lib.hid (by simpa using h)
            have HU1 := Lib.hid (HU0.out.alloc (.cells #[.int .i64 0, .int .i64 0, .int .i64 0, .int .i64 0, .slice none 0 0] 36))
            refine held_op 4 rfl (by kernel_rfl) (by rfl) (fun K hK => ?_)
            go_simp
            refine hK _ _ (SB.cells5 (HS1.out.alloc (.cells #[] 33))) ?_
            have hHeld := SB.cells5 (HS1.out.alloc (.cells #[] 33))
            clear hK K
            simp only [Act.put, List.setIfInBounds_toArray, List.set_cons_zero, List.set_cons_succ]
            have HS2 := Lib.hid (HS1.out.alloc (.cells #[] 33))
            have HB2 := Lib.hid (HB1.out.alloc HB1.out.size (.cells #[] 33))
            have HO2 := Lib.hid (Own.made (W3d.alloc (.cells #[.int .i64 0, .int .i64 0, .int .i64 0, .int .i64 0, .slice none 0 0] 36)) W3d.heap.size 33 encU [] #[] rfl HB1.out.size (by simp))
            have HU2 := Lib.hid (HU1.out.alloc (.cells #[] 33))
            have HN2 := Lib.hid (HN1.out.alloc (.cells #[] 33))
            refine held_op 7 rfl (by kernel_rfl) (by rfl) (fun K hK => ?_)
            refine wp_app _ elemU encU (.tmp 42) (.tmp 44) rfl W3d.heap.size _ [] (by simp [Act.eval]) HO2.out AU us cU (by simp [Act.eval]) HU2.out (by simp; omega) (by simp; omega) HB2.out.size ?_
            intro At ct w4 ho hg _
            rw [List.length_nil, Nat.zero_add, List.nil_append] at ho
            rw [List.length_nil, Nat.zero_add]
            have hb4 := HO2.out.belowGrown HB2.out hg (Nat.le_refl _) HB2.out.size
            have HR3 := Lib.hid ho
            have HB3 := Lib.hid hb4
            have HS3 := Lib.hid (HSd.out.below hb4)
            have HN3 := Lib.hid (HN2.out.grown hg (HO2.out.ne_blk HN2.out (by decide)))
            clear ho hg hb4
            refine hK _ _ (SB.cells5 HS3.out) ?_
            have hHeld := SB.cells5 HS3.out
            clear hK K
            simp only [Act.put, List.setIfInBounds_toArray, List.set_cons_zero, List.set_cons_succ]
            refine held_take 8 46 (.agg #[.int .i64 r.time, .int .i64 V0, .int .i64 V1, .int .i64 V2, .slice At us.length ct]) rfl rfl (by kernel_rfl) (by kernel_rfl) (by kernel_rfl) (fun _ _ _ h => h) (by rfl) (by intro w' hSw; (try dsimp only at hSw); go_simp; (try (with_reducible rfl))) (by assumption) ?_
            simp only [Act.put, List.setIfInBounds_toArray, List.set_cons_zero, List.set_cons_succ]
            have nc0 := HN3.out.cell 0
            have nc1 := HN3.out.cell 1
            have nc2 := HN3.out.cell 2
            have nc3 := HN3.out.cell 3
            have nc4 := HN3.out.cell 4
            simp only [List.getElem?_toArray, List.getElem?_cons_zero, List.getElem?_cons_succ] at nc0 nc1 nc2 nc3 nc4
            have nf0 := HN3.out.frozen 0
            have nf1 := HN3.out.frozen 1
            have nf2 := HN3.out.frozen 2
            have nf3 := HN3.out.frozen 3
            have nf4 := HN3.out.frozen 4
            have NBB : Hid (W3d.heap.size ≤ W3d.heap.size) := Lib.hid HB0.out.size
            have NN : Hid (n ≠ W3d.heap.size) := by
              have h1 := HSd.out.smp.lt
              have h2 := NBB.out
              show n ≠ W3d.heap.size
              omega
            have HSF := Lib.hid (((((HS3.out.smp.far (p := ⟨W3d.heap.size, 0, none⟩) NN.out (.int .i64 r.time)).far (p := ⟨W3d.heap.size, 1, none⟩) NN.out (.int .i64 V0)).far (p := ⟨W3d.heap.size, 2, none⟩) NN.out (.int .i64 V1)).far (p := ⟨W3d.heap.size, 3, none⟩) NN.out (.int .i64 V2)).far (p := ⟨W3d.heap.size, 4, none⟩) NN.out (.slice At us.length ct))
            refine held_op 10 rfl (by kernel_rfl) (by rfl) (fun K hK => ?_)
            go_simp
            refine hK undef _ (⟨HSF.out.cell 0, HSF.out.cell 1, HSF.out.cell 2, HSF.out.cell 3, HSF.out.cell 4⟩) ?_
            clear hK K
            simp only [Act.put, List.setIfInBounds_toArray, List.set_cons_zero, List.set_cons_succ]
            refine wpAnyH_done (by kernel_rfl) ?_ _
            go_wp2_with fail
            go_meet
            have e5 := (((((HN3.out.set_ 0 (.int .i64 r.time)).set_ 1 (.int .i64 V0)).set_ 2 (.int .i64 V1)).set_ 3 (.int .i64 V2)).set_ 4 (.slice At us.length ct))
            have b5 := (((((HB3.out.setCell (p := ⟨W3d.heap.size, 0, none⟩) NBB.out (.int .i64 r.time)).setCell (p := ⟨W3d.heap.size, 1, none⟩) NBB.out (.int .i64 V0)).setCell (p := ⟨W3d.heap.size, 2, none⟩) NBB.out (.int .i64 V1)).setCell (p := ⟨W3d.heap.size, 3, none⟩) NBB.out (.int .i64 V2)).setCell (p := ⟨W3d.heap.size, 4, none⟩) NBB.out (.slice At us.length ct))
            have r5 := (((((HR3.out.setFar HN3.out (by decide) 0 (.int .i64 r.time)).setFar (HN3.out.set_ 0 (.int .i64 r.time)) (by decide) 1 (.int .i64 V0)).setFar ((HN3.out.set_ 0 (.int .i64 r.time)).set_ 1 (.int .i64 V0)) (by decide) 2 (.int .i64 V1)).setFar (((HN3.out.set_ 0 (.int .i64 r.time)).set_ 1 (.int .i64 V0)).set_ 2 (.int .i64 V1)) (by decide) 3 (.int .i64 V2)).setFar ((((HN3.out.set_ 0 (.int .i64 r.time)).set_ 1 (.int .i64 V0)).set_ 2 (.int .i64 V1)).set_ 3 (.int .i64 V2)) (by decide) 4 (.slice At us.length ct))
            exact ⟨W3d.heap.size, At, ct, rfl, ⟨by simpa using e5, r5.toRds⟩, below_r HB3d.out b5⟩
        case rest =>
          obtain ⟨N, At, ct, rfl, hcb, hbc⟩ := hcut
          have HC := Lib.hid hcb
          have HBC := Lib.hid hbc
          clear hcb hbc
          have HQ := Lib.hid (HQ3.out.below HBC.out)
          have HS := Lib.hid ((HS.out.below HB3.out).below HBC.out)
          have HOWN := Lib.hid (HOWN.out.below HBC.out (Nat.le_refl _))
          have HB := Lib.hid (HB3.out.trans (HBC.out.mono HB3.out.size))
          clear HQ3 HSd HBC HB3
          have HSC : Hid (SB (⟨r.time, V0, V1, V2, At, us, ct⟩ : Sp) N wc) := ⟨HC.out.box, HC.out.rds⟩
          clear HC
          have cst := HSC.out.smp.cell
          go_wp2_with fail
          refine (orderT (s := ⟨r.time, V0, V1, V2, At, us, ct⟩) HKK.out HO.out HSC.out HU.out HOWN.out.toRds (by omega) HTB.out).mono ?_; rintro e w5 ⟨Ar, cr, rfl, hown, hb⟩
          have HQ := Lib.hid (HQ.out.below hb)
          have HS := Lib.hid (HS.out.below hb)
          have HSC := Lib.hid (HSC.out.below hb)
          have HOWN := Lib.hid (HOWN.out.below hb (Nat.le_refl _))
          have HB := Lib.hid (HB.out.trans (hb.mono HB.out.size))
          have HR := Lib.hid (hown.mono (Nat.zero_le _))
          clear hb hown cst
          have cst := HSC.out.smp.cell
          go_wp2_with fail
          refine (firstT (s := ⟨r.time, V0, V1, V2, At, us, ct⟩) HKK.out HSC.out HU.out HOWN.out.toRds (by omega) HTB.out).mono ?_; rintro e w6 ⟨b1, _, rfl, hb⟩
          have HQ := Lib.hid (HQ.out.below hb)
          have HS := Lib.hid (HS.out.below hb)
          have HSC := Lib.hid (HSC.out.below hb)
          have HOWN := Lib.hid (HOWN.out.below hb (Nat.le_refl _))
          have HR := Lib.hid (HR.out.below hb (Nat.le_refl _))
          have HB := Lib.hid (HB.out.trans (hb.mono HB.out.size))
          clear hb cst
          have cst := HSC.out.smp.cell
          have csm := HS.out.smp.cell
          go_wp2_with fail
          refine (same17_self r.time V0 V1 V2 us AU At cU ct _ HS.out.rds HSC.out.rds HU.out.len).mono ?_; rintro e w7 ⟨rfl, hb⟩
          have HB := Lib.hid (HB.out.trans (hb.mono HB.out.size))
          have HOWN := Lib.hid (HOWN.out.below hb (Nat.le_refl _))
          have HR := Lib.hid (HR.out.below hb (Nat.le_refl _))
          clear hb cst csm HQ HS HSC
          go_wp2_with fail
          go_loopw [12] (fun ii wr => ∃ i : Nat, i ≤ l.length ∧ ii = .int .i64 i ∧ Own wr W2.heap.size 48 encN (.slice Ao l.length co) (zTo l i) ∧ Own wr 0 9 encS (.slice Ar O.length cr) O ∧ Below W2.heap.size W2 wr) (fun ii _ => l.length - (intOf ii).toNat)
          case atStart => exact ⟨0, by omega, rfl, by rw [zTo_zero]; exact HOWN.out, HR.out, HB.out⟩
          case round =>
            clear HOWN HR HB
            obtain ⟨i, hi, rfl, hown, hrr, hbl⟩ := hrel
            have HZ := Lib.hid hown
            have HR := Lib.hid hrr
            have HB := Lib.hid hbl
            clear hown hrr hbl
            by_cases hlt : i < l.length
            · have hzl := zTo_len l i hi
              have dk : decide ((i : Int) < (l.length : Int)) = true := decide_eq_true (by omega)
              have dk2 : (i : Int) < (l.length : Int) := by omega
              have HZ2 : Hid (Own wr W2.heap.size 48 encN (.slice Ao (zTo l i).length co) (zTo l i)) := by show Own _ _ _ _ _ _; rw [hzl]; exact HZ.out
              obtain ⟨g, hg, _⟩ := own_some HZ2.out (by intro e; rw [e] at hzl; simp at hzl; omega)
              obtain rfl : Ao = some ⟨g, 0, none⟩ := hg
              obtain ⟨b0, off, hA, hjk⟩ := HQ0.out.tb.en hlt
              clear hjk
              obtain rfl : A = some ⟨b0, off, none⟩ := hA
              have HXI := Lib.hid (List.getElem?_eq_getElem hlt)
              have HZI := Lib.hid (zTo_at l i hlt)
              have HZS := Lib.hid (zTo_set l i hlt)
              have HRD := HZ2.out.toRds
              generalize l[i] = x at *
              obtain ⟨x0, x1, x2, x3, x4, x5, x6, x7, x8, x9, x10, x11⟩ := (HQ0.out.below HB.out).tb.enAt (Below.refl _ _) HXI.out
              obtain ⟨y0, y1, y2, y3, y4, y5, y6, y7, y8, y9, y10, y11⟩ := HRD.enAt (Below.refl _ _) HZI.out
              simp only [Nat.zero_add] at y0 y1 y2 y3 y4 y5 y6 y7 y8 y9 y10 y11
              clear HRD
              go_wp2_with fail
              go_quiet (fail)
              go_wp2_with (refine wl_store_own rfl 48 (.tmp 77) (.tmp 76) rfl g co (k := i) zEn #[.string ⟨#[]⟩, .int .i64 0, .bool false, .int .i64 0, .int .i64 0, .int .i64 0, .int .i64 0, .int .i64 0, .int .i64 0, .string ⟨#[]⟩, .int .i64 0, .int .i64 0] (by simp [Act.eval]) (by simp [Act.eval]) (HZ2.out.drewN _) (by omega) rfl szE ?_; intro w8 ho hg8 hs8; have HZ8 := Lib.hid ho; have HG8 := Lib.hid hg8; clear ho hg8 hs8)
              go_roundw
              case rel => exact ⟨i + 1, by omega, by go_num, by rw [← HZS.out, ← hzl]; exact HZ8.out, (HR.out.drewN _).grown HG8.out (own_apartT2 HR.out HZ2.out (by decide)), (HZ2.out.drewN _).belowGrown (HB.out.trans ⟨rfl, rfl, rfl, Nat.le_refl _, fun _ _ => rfl⟩) HG8.out (Nat.le_refl _) HB.out.size⟩
              case measure => simp [intOf]; omega
            · obtain rfl : i = l.length := by omega
              have dk : decide ((l.length : Int) < (l.length : Int)) = false := by simp
              have HS := Lib.hid (HS0.out.below HB.out)
              have HQ := Lib.hid (HQ0.out.below HB.out)
              have csm := HS.out.smp.cell
              go_wp2_with fail
              refine (refOrderT (s := (⟨r.time, V0, V1, V2, AU, us, cU⟩ : Sp)) HKK.out HO.out HS.out HU.out HQ.out.tb (by omega) HTB.out).mono ?_; rintro e w8 ⟨Ap, cp, rfl, hown, hb⟩
              have HQ := Lib.hid (HQ.out.below hb)
              have HR := Lib.hid (HR.out.toRds.below hb)
              have HRP := Lib.hid hown.toRds
              clear hb hown csm
              go_wp2_with fail
              refine (sameY rfl HR.out HRP.out (by omega)).mono ?_; rintro e w9 ⟨rfl, hb⟩
              have HQ := Lib.hid (HQ.out.below hb)
              clear hb
              go_wp2_with fail
              go_ret
              exact ⟨rfl, HQ.out.bel⟩
end Go.Proofs.Ytlnpmdchhmbblaa
