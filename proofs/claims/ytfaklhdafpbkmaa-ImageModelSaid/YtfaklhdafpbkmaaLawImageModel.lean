/- bilgelaw15.ImageModel: of whatever acts, one behind the other: each list, which names are there, the sum, the order. -/
import Derived.Test.YtfaklhdafpbkmaaActs
import Derived.BigQuiet
import Derived.Deep.RegionHeld3
namespace Go.Proofs.Ytfaklhdafpbkmaa
open Go.RowKit

theorem place_is {m : List Im} (hs : SortedN m) (s : ByteArray) : (isAt m s = true → placeOf m s = (lowerI m s : Int)) ∧ (isAt m s = false → placeOf m s = -1) := by
  refine ⟨fun h => ?_, fun h => ?_⟩
  · obtain ⟨hi, hn⟩ := isAt_lt h
    have := placeOf_at (sorted_nodup hs) hi
    rw [hn] at this; exact this
  · unfold placeOf
    have : m.findIdx? (fun x => x.name.toList == s.toList) = none := by
      rw [List.findIdx?_eq_none_iff]
      intro x hx
      have h2 := no_name hs h hx
      unfold bne at h2
      simpa using h2
    rw [this]
theorem placeV_any (l : List Im) (s : ByteArray) (z : Int) (hz : placeOf l s = z) (A : Option Addr) (c : Nat) (w : World) (hr : Rds w encI A l) (hm : l.length ≤ 9223372036854775807) :
    Calls Try.prog 33 #[.slice A l.length c, .string s] w fun e w' => e = .returned (.int .i64 z) ∧ w = w' :=
  (place_any l s A c w hr hm).mono fun _ _ h => ⟨by rw [h.1, hz], h.2⟩
theorem place_q0 (l : List Im) (s : ByteArray) (z : Int) (hz : placeOf l s = z) (A : Option Addr) (c : Nat) (w : World) (n3 : Nat) (hr : Rds w encI A l) (hm : l.length ≤ 9223372036854775807) :
    Calls Try.prog 33 #[.slice A l.length c, .string s] (w.drewN n3) fun e w' => e = .returned (.int .i64 z) ∧ ∃ n, w' = w.drewN n :=
  (place_any l s A c _ (hr.drewN _) hm).mono fun _ _ h => ⟨by rw [h.1, hz], n3, h.2.symm⟩
theorem below_drN {w w' : World} {n : Nat} (hb : Below (w.drewN n).heap.size (w.drewN n) w') : Below w.heap.size w w' := (below_ofDrewN (w := w) ⟨n, rfl⟩).trans hb
theorem afterV_any (l : List Ac) (G : List Im) (hG : afterOf l = G) (A : Option Addr) (n c : Nat) (hn : l.length = n) (w : World) (hr : Rds w encA A l) (hwf : ∀ x ∈ l, x.Wf w) (hl : l.length ≤ 1000) :
    Calls Try.prog 41 #[.slice A n c] w (GivesIms G w) := by subst hG; exact after_any l A n c hn w hr hwf hl
theorem stepA_put {m : List Im} {x : Ac} (h : x.act = 0) : putOf m x.name x.size x.round = stepA m x := by unfold stepA; rw [if_pos h]
theorem stepA_touch {m : List Im} {x : Ac} (h0 : ¬ x.act = 0) (h : x.act = 1) : touchM m x.used x.round = stepA m x := by unfold stepA; rw [if_neg h0, if_pos h]
theorem stepA_drop {m : List Im} {x : Ac} (hs : SortedN m) (h0 : ¬ x.act = 0) (h : ¬ x.act = 1) : dropAt m x.name = stepA m x := by unfold stepA; rw [if_neg h0, if_neg h, dropAt_eq hs]
theorem refTotal_v {l : List Im} {n : Int} (hn : totalOf l = n) (A : Option Addr) (c : Nat) (w : World) (hr : Rds w encI A l) (hl : l.length ≤ 100000) (hwf : ∀ x ∈ l, I64 x.size) :
    Calls Try.prog 43 #[.slice A l.length c] w fun e w' => e = .returned (.int .i64 n) ∧ w = w' := by subst hn; exact refTotal_any l A c w hr hl hwf

set_option maxRecDepth 100000 in
set_option maxHeartbeats 32000000 in
theorem imageModel_any (l : List Ac) (A : Option Addr) (c : Nat) (w : World) (hr : Rds w encA A l) (hwf : ∀ x ∈ l, x.Wf w) (hl : l.length ≤ 9223372036854775807) (hlc : l.length ≤ c) :
    Calls Try.prog 11 #[.slice A l.length c] w fun e w' => e = .returned (.bool true) ∧ Below w.heap.size w w' := by
  have HR := Lib.hid hr
  have HX := Lib.hid hwf
  have HAL := Lib.hid (after_all l (fun x hx => (hwf x hx).size))
  clear hr hwf
  have mixed : Try.prog.follows Departure.mixedOrders = true := by kernel_rfl
  go_enter Try.func11, Try.ntmps11
  go_wp2_with fail
  refine (awake15_any _).mono ?_; rintro e w0 ⟨rfl, hb0⟩
  have HB0 := Lib.hid hb0
  clear hb0
  go_wp2_with fail
  refine (fewA_any l A c _ (HR.out.below HB0.out) (fun x hx => ⟨(HX.out x hx).size, (HX.out x hx).used.below HB0.out, (HX.out x hx).len⟩) hl).mono ?_; rintro e w1 ⟨rfl, hb1⟩
  have HB1 := Lib.hid (HB0.out.trans (hb1.mono HB0.out.size))
  clear HB0 hb1
  cases hcond : fewA l
  case false =>
    clear hcond
    go_wp2_with fail
    refine (awake15_any _).mono ?_; rintro e w2 ⟨rfl, hb2⟩
    have HB2 := Lib.hid (HB1.out.trans (hb2.mono HB1.out.size))
    clear HB1 hb2
    go_wp2_with fail
    go_ret
    exact ⟨rfl, HB2.out⟩
  case true =>
    have hl1 : l.length ≤ 50 := by unfold fewA at hcond; simp only [Bool.and_eq_true, decide_eq_true_eq] at hcond; exact hcond.2
    clear hcond
    go_wp2_with fail
    go_loopw [3, 4] (fun out i wr => ∃ (k : Nat) (m : List Im) (A' : Option Addr) (c' : Nat), k ≤ l.length ∧ i = .int .i64 k ∧ m = afterOf (l.take k) ∧ out = .slice A' m.length c' ∧ Own wr w.heap.size 46 encI (.slice A' m.length c') m ∧ Below w.heap.size w wr) (fun _ i _ => l.length - (intOf i).toNat)
    case atStart => exact ⟨0, [], none, 0, by omega, rfl, rfl, rfl, Own.nil_ _ _ _ _, HB1.out⟩
    case round =>
      clear HB1
      obtain ⟨k, m, A', c', hk, rfl, hm', rfl, hO, hB⟩ := hrel
      have hA := HAL.out k hk
      rw [← hm'] at hA
      have hml := hA.2.1
      have HS := Lib.hid hA.1
      have HM := Lib.hid hm'
      have HP := Lib.hid (And.intro hO hB)
      clear hA hm' hO hB
      by_cases hlt : k < l.length
      · obtain ⟨b, off, rfl, hb, c0, c1, c2, c3, c4⟩ := (HR.out.below HP.out.2).ac hlt
        have dk : decide ((k : Int) < (l.length : Int)) = true := decide_eq_true (by omega)
        have dk2 : (k : Int) < (l.length : Int) := by omega
        have hwx := HX.out l[k] (List.getElem_mem hlt)
        have HN := Lib.hid (afterOf_next l k hlt)
        have HAN := Lib.hid (HAL.out (k + 1) hlt)
        rw [← HM.out] at HN
        generalize l[k] = x at *
        have HU := Lib.hid hwx.used
        have hul := hwx.len
        clear hwx
        have HPL := Lib.hid (place_is HS.out x.name)
        have HBX := Lib.hid (Blk.new wr 54 x.cells)
        have HP1 := Lib.hid (And.intro (HP.out.1.alloc (.cells x.cells 54)) (HP.out.2.alloc HP.out.2.size (.cells x.cells 54)))
        cases hat : isAt m x.name
        case false =>
          have HPV := Lib.hid (HPL.out.2 hat)
          have HFO2 : Hid (findOf m x.name = ⟨⟨#[]⟩, 0, 0⟩) := findOf_no hat
          have HAT := Lib.hid hat
          clear hat HPL
          go_wp2_with fail
          refine (placeV_any m x.name (-1) HPV.out A' c' _ HP1.out.1.toRds (by omega)).mono ?_; rintro e wz ⟨rfl, rfl⟩
          go_wp2_with fail
          refine (find_v HFO2.out HAT.out A' c' _ HP1.out.1.toRds (by omega) HS.out).mono ?_; rintro e wA ⟨rfl, hbA⟩
          have hbY : Below wA.heap.size wA (wA.alloc (.cells (⟨⟨#[]⟩, 0, 0⟩ : Im).cells 46)) := (Below.refl _ _).alloc (Nat.le_refl _) _
          have HP2 := Lib.hid (And.intro ((HP1.out.1.below hbA (Nat.le_refl _)).below hbY (Nat.le_refl _)) (And.intro ((HBX.out.belowAll hbA).belowAll hbY) (And.intro (Blk.new wA 46 (⟨⟨#[]⟩, 0, 0⟩ : Im).cells) ((HP1.out.2.trans (hbA.mono HP1.out.2.size)).trans (hbY.mono (Nat.le_trans HP1.out.2.size hbA.size))))))
          clear hbA hbY HP1 HBX
          have xc1 := HP2.out.2.1.cell 1
          have xc0 := HP2.out.2.1.cell 0
          have xc2 := HP2.out.2.1.cell 2
          have xc3 := HP2.out.2.1.cell 3
          have xc4 := HP2.out.2.1.cell 4
          have yc0 := HP2.out.2.2.1.cell 0
          have yc1 := HP2.out.2.2.1.cell 1
          have yc2 := HP2.out.2.2.1.cell 2
          simp only [List.getElem?_toArray, List.getElem?_cons_zero, List.getElem?_cons_succ] at xc0 xc1 xc2 xc3 xc4 yc0 yc1 yc2
          go_wp2_with fail
          go_quiet (fail)
          clear yc0 yc1 yc2
          obtain ⟨G, HG⟩ : ∃ G, Hid (stepA m x = G) := ⟨_, Lib.hid rfl⟩
          have HNG := Lib.hid (HN.out.trans HG.out)
          have hGl : G.length ≤ 51 := by have := stepA_len m x; rw [HG.out] at this; omega
          have HGW := Lib.hid (show ∀ y ∈ G, I64 y.size by rw [← HNG.out]; exact HAN.out.2.2)
          have HGS := Lib.hid (show SortedN G by rw [← HNG.out]; exact HAN.out.1)
          have hw1 : IntKind.i64.wrap ((k : Int) + 1) = (k : Int) + 1 := by rw [IntKind.wrap_i64]; omega
          have dk5 : (0 : Int) ≤ (k : Int) + 1 := by omega
          have dk6 : ((k : Int) + 1).toNat = k + 1 := by omega
          have dk7 : (k : Int) + 1 ≤ (c : Int) := by omega
          have dtt : (totalOf G != totalOf G) = false := by simp
          clear HN HAN HFO2
          by_cases h0 : x.act = 0
          · have d0 : (x.act == 0) = true := beq_iff_eq.2 h0
            have HST := Lib.hid ((stepA_put h0).trans HG.out)
            clear h0
            go_wp2_with fail
            refine (put_v HST.out A' c' _ (HP2.out.1.drewN _).toRds (by omega) HS.out).mono ?_; rintro e wB ⟨A9, c9, rfl, hO, hb⟩
            have hbd := below_drN hb
            have HP3 := Lib.hid (And.intro hO.toRds (And.intro (HP2.out.2.1.belowAll hbd) (HP2.out.2.2.2.trans (hbd.mono HP2.out.2.2.2.size))))
            clear hO hb hbd HP2 xc0 xc1 xc2 xc3 xc4
            go_wp2_with fail
            refine (afterV_any (l.take (k + 1)) G HNG.out _ (k + 1) c (by rw [List.length_take]; omega) _ ((HR.out.take (k + 1)).below HP3.out.2.2) (fun y hy => ⟨(HX.out y (List.mem_of_mem_take hy)).size, (HX.out y (List.mem_of_mem_take hy)).used.below HP3.out.2.2, (HX.out y (List.mem_of_mem_take hy)).len⟩) (by rw [List.length_take]; omega)).mono ?_; rintro e wC ⟨A10, c10, rfl, hO, hb⟩
            have HQ := Lib.hid (And.intro (HP3.out.1.below hb) (And.intro (hO.mono HP3.out.2.2.size) (And.intro (HU.out.below (HP3.out.2.2.trans (hb.mono HP3.out.2.2.size))) (HP3.out.2.2.trans (hb.mono HP3.out.2.2.size)))))
            have HBC := Lib.hid (HP3.out.2.1.belowAll hb)
            have xc4 := HBC.out.cell 4
            simp only [List.getElem?_toArray, List.getElem?_cons_zero, List.getElem?_cons_succ] at xc4
            clear hO hb HP3
            obtain ⟨S, HS2⟩ : ∃ S, Hid (S = orderOf G x.used) := ⟨_, Lib.hid rfl⟩
            have hSl : S.length ≤ 51 := by
              have h : (orderOf G x.used).length = (G.filter (isFree x.used)).length := sortIm_len _
              rw [HS2.out, h]; exact Nat.le_trans (List.length_filter_le _ _) hGl
            go_wp2_with fail
            have HQ := Lib.hid (And.intro HQ.out.1.drew (And.intro HQ.out.2.1.drew (And.intro HQ.out.2.2.1.drew HQ.out.2.2.2.drew)))
            have HBC := Lib.hid HBC.out.drew
            have xc4 := HBC.out.cell 4
            simp only [List.getElem?_toArray, List.getElem?_cons_zero, List.getElem?_cons_succ] at xc4
            go_region_held3 (fun w' => w'.cell? ⟨wr.heap.size, 4, none⟩ = some (.slice x.ua x.used.length x.uc)) (with_reducible assumption)
             (first
              | (go_at_call 34; have hh4 := HR4.out; have hh5 := HR5.out; refine (sameI_self S A11 A12 c11 c12 _ hh4 hh5 (by omega)).mono ?_; rintro e v6 ⟨rfl, hb⟩; have HQ := Lib.hid (And.intro (HQ.out.1.below hb) (And.intro (HQ.out.2.1.below hb (Nat.le_refl _)) (And.intro (HQ.out.2.2.1.below hb) (HQ.out.2.2.2.trans (hb.mono HQ.out.2.2.2.size))))); have HBC := Lib.hid (HBC.out.belowAll hb); have xc4 := HBC.out.cell 4; simp only [List.getElem?_toArray, List.getElem?_cons_zero, List.getElem?_cons_succ] at xc4; clear hb hh4 hh5)
              | (go_at_call 34; refine (sameI_self G A9 A10 c9 c10 _ HQ.out.1 HQ.out.2.1.toRds (by omega)).mono ?_; rintro e v1 ⟨rfl, hb⟩; have HQ := Lib.hid (And.intro (HQ.out.1.below hb) (And.intro (HQ.out.2.1.below hb (Nat.le_refl _)) (And.intro (HQ.out.2.2.1.below hb) (HQ.out.2.2.2.trans (hb.mono HQ.out.2.2.2.size))))); have HBC := Lib.hid (HBC.out.belowAll hb); have xc4 := HBC.out.cell 4; simp only [List.getElem?_toArray, List.getElem?_cons_zero, List.getElem?_cons_succ] at xc4; clear hb)
              | (go_at_call 42; refine (total_any G A9 c9 _ HQ.out.1 (by omega) HGW.out).mono ?_; rintro e v2 ⟨rfl, hb⟩; have HQ := Lib.hid (And.intro (HQ.out.1.below hb) (And.intro (HQ.out.2.1.below hb (Nat.le_refl _)) (And.intro (HQ.out.2.2.1.below hb) (HQ.out.2.2.2.trans (hb.mono HQ.out.2.2.2.size))))); have HBC := Lib.hid (HBC.out.belowAll hb); have xc4 := HBC.out.cell 4; simp only [List.getElem?_toArray, List.getElem?_cons_zero, List.getElem?_cons_succ] at xc4; clear hb)
              | (go_at_call 43; refine (refTotal_any G A10 c10 _ HQ.out.2.1.toRds (by omega) HGW.out).mono ?_; rintro e v3 ⟨rfl, rfl⟩)
              | (go_at_call 44; refine (orderV_any HS2.out.symm A9 x.ua c9 x.uc _ HQ.out.1 HQ.out.2.2.1 (by omega) hul).mono ?_; rintro e v4 ⟨A11, c11, rfl, hO, hb⟩; have HQ := Lib.hid (And.intro (HQ.out.1.below hb) (And.intro (HQ.out.2.1.below hb (Nat.le_refl _)) (And.intro (HQ.out.2.2.1.below hb) (HQ.out.2.2.2.trans (hb.mono HQ.out.2.2.2.size))))); have HR4 := Lib.hid hO.toRds; (try (have HR5 := Lib.hid (HR5.out.below hb))); have HBC := Lib.hid (HBC.out.belowAll hb); have xc4 := HBC.out.cell 4; simp only [List.getElem?_toArray, List.getElem?_cons_zero, List.getElem?_cons_succ] at xc4; clear hb hO)
              | (go_at_call 45; refine (refOrderD_any G x.used S HS2.out A10 x.ua c10 x.uc _ HQ.out.2.1.toRds HQ.out.2.2.1 (by omega) hul (sorted_nodup HGS.out)).mono ?_; rintro e v5 ⟨A12, c12, rfl, hO, hb⟩; have HQ := Lib.hid (And.intro (HQ.out.1.below hb) (And.intro (HQ.out.2.1.below hb (Nat.le_refl _)) (And.intro (HQ.out.2.2.1.below hb) (HQ.out.2.2.2.trans (hb.mono HQ.out.2.2.2.size))))); have HR5 := Lib.hid hO.toRds; (try (have HR4 := Lib.hid (HR4.out.below hb))); have HBC := Lib.hid (HBC.out.belowAll hb); have xc4 := HBC.out.cell 4; simp only [List.getElem?_toArray, List.getElem?_cons_zero, List.getElem?_cons_succ] at xc4; clear hb hO))
            all_goals
              go_wp2_with fail
              go_roundw
              case rel => exact ⟨k + 1, G, A10, c10, by omega, by go_num, HNG.out.symm, rfl, HQ.out.2.1, HQ.out.2.2.2⟩
              case measure => simp [intOf]; omega
          · have d0 : (x.act == 0) = false := beq_eq_false_iff_ne.2 h0
            by_cases h1 : x.act = 1
            · have d1 : (x.act == 1) = true := beq_iff_eq.2 h1
              have HST := Lib.hid ((stepA_touch h0 h1).trans HG.out)
              clear h0 h1
              go_wp2_with fail
              refine (touch_v HST.out A' x.ua c' x.uc _ (HP2.out.1.drewN _).toRds (HU.out.below (HP2.out.2.2.2.trans ((below_ofDrewN (w := (wA.alloc (.cells (⟨⟨#[]⟩, 0, 0⟩ : Im).cells 46))) ⟨_, rfl⟩).mono HP2.out.2.2.2.size))) (by omega) hul HS.out).mono ?_; rintro e wB ⟨A9, c9, rfl, hO, hb⟩
              have hbd := below_drN hb
              have HP3 := Lib.hid (And.intro hO.toRds (And.intro (HP2.out.2.1.belowAll hbd) (HP2.out.2.2.2.trans (hbd.mono HP2.out.2.2.2.size))))
              clear hO hb hbd HP2 xc0 xc1 xc2 xc3 xc4
              go_wp2_with fail
              refine (afterV_any (l.take (k + 1)) G HNG.out _ (k + 1) c (by rw [List.length_take]; omega) _ ((HR.out.take (k + 1)).below HP3.out.2.2) (fun y hy => ⟨(HX.out y (List.mem_of_mem_take hy)).size, (HX.out y (List.mem_of_mem_take hy)).used.below HP3.out.2.2, (HX.out y (List.mem_of_mem_take hy)).len⟩) (by rw [List.length_take]; omega)).mono ?_; rintro e wC ⟨A10, c10, rfl, hO, hb⟩
              have HQ := Lib.hid (And.intro (HP3.out.1.below hb) (And.intro (hO.mono HP3.out.2.2.size) (And.intro (HU.out.below (HP3.out.2.2.trans (hb.mono HP3.out.2.2.size))) (HP3.out.2.2.trans (hb.mono HP3.out.2.2.size)))))
              have HBC := Lib.hid (HP3.out.2.1.belowAll hb)
              have xc4 := HBC.out.cell 4
              simp only [List.getElem?_toArray, List.getElem?_cons_zero, List.getElem?_cons_succ] at xc4
              clear hO hb HP3
              obtain ⟨S, HS2⟩ : ∃ S, Hid (S = orderOf G x.used) := ⟨_, Lib.hid rfl⟩
              have hSl : S.length ≤ 51 := by
                have h : (orderOf G x.used).length = (G.filter (isFree x.used)).length := sortIm_len _
                rw [HS2.out, h]; exact Nat.le_trans (List.length_filter_le _ _) hGl
              go_wp2_with fail
              have HQ := Lib.hid (And.intro HQ.out.1.drew (And.intro HQ.out.2.1.drew (And.intro HQ.out.2.2.1.drew HQ.out.2.2.2.drew)))
              have HBC := Lib.hid HBC.out.drew
              have xc4 := HBC.out.cell 4
              simp only [List.getElem?_toArray, List.getElem?_cons_zero, List.getElem?_cons_succ] at xc4
              go_region_held3 (fun w' => w'.cell? ⟨wr.heap.size, 4, none⟩ = some (.slice x.ua x.used.length x.uc)) (with_reducible assumption)
               (first
                | (go_at_call 34; have hh4 := HR4.out; have hh5 := HR5.out; refine (sameI_self S A11 A12 c11 c12 _ hh4 hh5 (by omega)).mono ?_; rintro e v6 ⟨rfl, hb⟩; have HQ := Lib.hid (And.intro (HQ.out.1.below hb) (And.intro (HQ.out.2.1.below hb (Nat.le_refl _)) (And.intro (HQ.out.2.2.1.below hb) (HQ.out.2.2.2.trans (hb.mono HQ.out.2.2.2.size))))); have HBC := Lib.hid (HBC.out.belowAll hb); have xc4 := HBC.out.cell 4; simp only [List.getElem?_toArray, List.getElem?_cons_zero, List.getElem?_cons_succ] at xc4; clear hb hh4 hh5)
                | (go_at_call 34; refine (sameI_self G A9 A10 c9 c10 _ HQ.out.1 HQ.out.2.1.toRds (by omega)).mono ?_; rintro e v1 ⟨rfl, hb⟩; have HQ := Lib.hid (And.intro (HQ.out.1.below hb) (And.intro (HQ.out.2.1.below hb (Nat.le_refl _)) (And.intro (HQ.out.2.2.1.below hb) (HQ.out.2.2.2.trans (hb.mono HQ.out.2.2.2.size))))); have HBC := Lib.hid (HBC.out.belowAll hb); have xc4 := HBC.out.cell 4; simp only [List.getElem?_toArray, List.getElem?_cons_zero, List.getElem?_cons_succ] at xc4; clear hb)
                | (go_at_call 42; refine (total_any G A9 c9 _ HQ.out.1 (by omega) HGW.out).mono ?_; rintro e v2 ⟨rfl, hb⟩; have HQ := Lib.hid (And.intro (HQ.out.1.below hb) (And.intro (HQ.out.2.1.below hb (Nat.le_refl _)) (And.intro (HQ.out.2.2.1.below hb) (HQ.out.2.2.2.trans (hb.mono HQ.out.2.2.2.size))))); have HBC := Lib.hid (HBC.out.belowAll hb); have xc4 := HBC.out.cell 4; simp only [List.getElem?_toArray, List.getElem?_cons_zero, List.getElem?_cons_succ] at xc4; clear hb)
                | (go_at_call 43; refine (refTotal_any G A10 c10 _ HQ.out.2.1.toRds (by omega) HGW.out).mono ?_; rintro e v3 ⟨rfl, rfl⟩)
                | (go_at_call 44; refine (orderV_any HS2.out.symm A9 x.ua c9 x.uc _ HQ.out.1 HQ.out.2.2.1 (by omega) hul).mono ?_; rintro e v4 ⟨A11, c11, rfl, hO, hb⟩; have HQ := Lib.hid (And.intro (HQ.out.1.below hb) (And.intro (HQ.out.2.1.below hb (Nat.le_refl _)) (And.intro (HQ.out.2.2.1.below hb) (HQ.out.2.2.2.trans (hb.mono HQ.out.2.2.2.size))))); have HR4 := Lib.hid hO.toRds; (try (have HR5 := Lib.hid (HR5.out.below hb))); have HBC := Lib.hid (HBC.out.belowAll hb); have xc4 := HBC.out.cell 4; simp only [List.getElem?_toArray, List.getElem?_cons_zero, List.getElem?_cons_succ] at xc4; clear hb hO)
                | (go_at_call 45; refine (refOrderD_any G x.used S HS2.out A10 x.ua c10 x.uc _ HQ.out.2.1.toRds HQ.out.2.2.1 (by omega) hul (sorted_nodup HGS.out)).mono ?_; rintro e v5 ⟨A12, c12, rfl, hO, hb⟩; have HQ := Lib.hid (And.intro (HQ.out.1.below hb) (And.intro (HQ.out.2.1.below hb (Nat.le_refl _)) (And.intro (HQ.out.2.2.1.below hb) (HQ.out.2.2.2.trans (hb.mono HQ.out.2.2.2.size))))); have HR5 := Lib.hid hO.toRds; (try (have HR4 := Lib.hid (HR4.out.below hb))); have HBC := Lib.hid (HBC.out.belowAll hb); have xc4 := HBC.out.cell 4; simp only [List.getElem?_toArray, List.getElem?_cons_zero, List.getElem?_cons_succ] at xc4; clear hb hO))
              all_goals
                go_wp2_with fail
                go_roundw
                case rel => exact ⟨k + 1, G, A10, c10, by omega, by go_num, HNG.out.symm, rfl, HQ.out.2.1, HQ.out.2.2.2⟩
                case measure => simp [intOf]; omega
            · have d1 : (x.act == 1) = false := beq_eq_false_iff_ne.2 h1
              have HST := Lib.hid ((stepA_drop HS.out h0 h1).trans HG.out)
              clear h0 h1
              go_wp2_with fail
              refine (drop_v HST.out HAT.out A' c' _ (HP2.out.1.drewN _).toRds (by omega) HS.out).mono ?_; rintro e wB ⟨A9, c9, rfl, hO, hb⟩
              have hbd := below_drN hb
              have HP3 := Lib.hid (And.intro hO.toRds (And.intro (HP2.out.2.1.belowAll hbd) (HP2.out.2.2.2.trans (hbd.mono HP2.out.2.2.2.size))))
              clear hO hb hbd HP2 xc0 xc1 xc2 xc3 xc4
              go_wp2_with fail
              refine (afterV_any (l.take (k + 1)) G HNG.out _ (k + 1) c (by rw [List.length_take]; omega) _ ((HR.out.take (k + 1)).below HP3.out.2.2) (fun y hy => ⟨(HX.out y (List.mem_of_mem_take hy)).size, (HX.out y (List.mem_of_mem_take hy)).used.below HP3.out.2.2, (HX.out y (List.mem_of_mem_take hy)).len⟩) (by rw [List.length_take]; omega)).mono ?_; rintro e wC ⟨A10, c10, rfl, hO, hb⟩
              have HQ := Lib.hid (And.intro (HP3.out.1.below hb) (And.intro (hO.mono HP3.out.2.2.size) (And.intro (HU.out.below (HP3.out.2.2.trans (hb.mono HP3.out.2.2.size))) (HP3.out.2.2.trans (hb.mono HP3.out.2.2.size)))))
              have HBC := Lib.hid (HP3.out.2.1.belowAll hb)
              have xc4 := HBC.out.cell 4
              simp only [List.getElem?_toArray, List.getElem?_cons_zero, List.getElem?_cons_succ] at xc4
              clear hO hb HP3
              obtain ⟨S, HS2⟩ : ∃ S, Hid (S = orderOf G x.used) := ⟨_, Lib.hid rfl⟩
              have hSl : S.length ≤ 51 := by
                have h : (orderOf G x.used).length = (G.filter (isFree x.used)).length := sortIm_len _
                rw [HS2.out, h]; exact Nat.le_trans (List.length_filter_le _ _) hGl
              go_wp2_with fail
              have HQ := Lib.hid (And.intro HQ.out.1.drew (And.intro HQ.out.2.1.drew (And.intro HQ.out.2.2.1.drew HQ.out.2.2.2.drew)))
              have HBC := Lib.hid HBC.out.drew
              have xc4 := HBC.out.cell 4
              simp only [List.getElem?_toArray, List.getElem?_cons_zero, List.getElem?_cons_succ] at xc4
              go_region_held3 (fun w' => w'.cell? ⟨wr.heap.size, 4, none⟩ = some (.slice x.ua x.used.length x.uc)) (with_reducible assumption)
               (first
                | (go_at_call 34; have hh4 := HR4.out; have hh5 := HR5.out; refine (sameI_self S A11 A12 c11 c12 _ hh4 hh5 (by omega)).mono ?_; rintro e v6 ⟨rfl, hb⟩; have HQ := Lib.hid (And.intro (HQ.out.1.below hb) (And.intro (HQ.out.2.1.below hb (Nat.le_refl _)) (And.intro (HQ.out.2.2.1.below hb) (HQ.out.2.2.2.trans (hb.mono HQ.out.2.2.2.size))))); have HBC := Lib.hid (HBC.out.belowAll hb); have xc4 := HBC.out.cell 4; simp only [List.getElem?_toArray, List.getElem?_cons_zero, List.getElem?_cons_succ] at xc4; clear hb hh4 hh5)
                | (go_at_call 34; refine (sameI_self G A9 A10 c9 c10 _ HQ.out.1 HQ.out.2.1.toRds (by omega)).mono ?_; rintro e v1 ⟨rfl, hb⟩; have HQ := Lib.hid (And.intro (HQ.out.1.below hb) (And.intro (HQ.out.2.1.below hb (Nat.le_refl _)) (And.intro (HQ.out.2.2.1.below hb) (HQ.out.2.2.2.trans (hb.mono HQ.out.2.2.2.size))))); have HBC := Lib.hid (HBC.out.belowAll hb); have xc4 := HBC.out.cell 4; simp only [List.getElem?_toArray, List.getElem?_cons_zero, List.getElem?_cons_succ] at xc4; clear hb)
                | (go_at_call 42; refine (total_any G A9 c9 _ HQ.out.1 (by omega) HGW.out).mono ?_; rintro e v2 ⟨rfl, hb⟩; have HQ := Lib.hid (And.intro (HQ.out.1.below hb) (And.intro (HQ.out.2.1.below hb (Nat.le_refl _)) (And.intro (HQ.out.2.2.1.below hb) (HQ.out.2.2.2.trans (hb.mono HQ.out.2.2.2.size))))); have HBC := Lib.hid (HBC.out.belowAll hb); have xc4 := HBC.out.cell 4; simp only [List.getElem?_toArray, List.getElem?_cons_zero, List.getElem?_cons_succ] at xc4; clear hb)
                | (go_at_call 43; refine (refTotal_any G A10 c10 _ HQ.out.2.1.toRds (by omega) HGW.out).mono ?_; rintro e v3 ⟨rfl, rfl⟩)
                | (go_at_call 44; refine (orderV_any HS2.out.symm A9 x.ua c9 x.uc _ HQ.out.1 HQ.out.2.2.1 (by omega) hul).mono ?_; rintro e v4 ⟨A11, c11, rfl, hO, hb⟩; have HQ := Lib.hid (And.intro (HQ.out.1.below hb) (And.intro (HQ.out.2.1.below hb (Nat.le_refl _)) (And.intro (HQ.out.2.2.1.below hb) (HQ.out.2.2.2.trans (hb.mono HQ.out.2.2.2.size))))); have HR4 := Lib.hid hO.toRds; (try (have HR5 := Lib.hid (HR5.out.below hb))); have HBC := Lib.hid (HBC.out.belowAll hb); have xc4 := HBC.out.cell 4; simp only [List.getElem?_toArray, List.getElem?_cons_zero, List.getElem?_cons_succ] at xc4; clear hb hO)
                | (go_at_call 45; refine (refOrderD_any G x.used S HS2.out A10 x.ua c10 x.uc _ HQ.out.2.1.toRds HQ.out.2.2.1 (by omega) hul (sorted_nodup HGS.out)).mono ?_; rintro e v5 ⟨A12, c12, rfl, hO, hb⟩; have HQ := Lib.hid (And.intro (HQ.out.1.below hb) (And.intro (HQ.out.2.1.below hb (Nat.le_refl _)) (And.intro (HQ.out.2.2.1.below hb) (HQ.out.2.2.2.trans (hb.mono HQ.out.2.2.2.size))))); have HR5 := Lib.hid hO.toRds; (try (have HR4 := Lib.hid (HR4.out.below hb))); have HBC := Lib.hid (HBC.out.belowAll hb); have xc4 := HBC.out.cell 4; simp only [List.getElem?_toArray, List.getElem?_cons_zero, List.getElem?_cons_succ] at xc4; clear hb hO))
              all_goals
                go_wp2_with fail
                go_roundw
                case rel => exact ⟨k + 1, G, A10, c10, by omega, by go_num, HNG.out.symm, rfl, HQ.out.2.1, HQ.out.2.2.2⟩
                case measure => simp [intOf]; omega
        case true =>
          obtain ⟨hil, hname⟩ := isAt_lt hat
          have HPV := Lib.hid (HPL.out.1 hat)
          have HAT := Lib.hid hat
          have HFO := Lib.hid (show findOf m x.name = m[lowerI m x.name] by unfold findOf; rw [if_pos hat, List.getElem?_eq_getElem hil])
          clear hat hname HPL
          obtain ⟨i, hi⟩ : ∃ i, i = lowerI m x.name := ⟨_, rfl⟩
          have hil' : i < m.length := by rw [hi]; exact hil
          have HFO2 : Hid (findOf m x.name = m[i]) := by subst hi; exact HFO.out
          rw [← hi] at HPV
          clear hi hil HFO
          have di : decide ((0 : Int) ≤ (i : Int)) = true := decide_eq_true (by omega)
          have di2 : (i : Int) < (m.length : Int) := by omega
          obtain ⟨y, hy⟩ : ∃ y, y = m[i] := ⟨_, rfl⟩
          have HCM := Lib.hid (fun (wq : World) (hq : Rds wq encI A' m) => show ∃ b off, A' = some ⟨b, off, none⟩ ∧ b < wq.heap.size ∧ wq.cell? ⟨b, off + i * 3, none⟩ = some (.string y.name) ∧ wq.cell? ⟨b, off + i * 3 + 1, none⟩ = some (.int .i64 y.size) ∧ wq.cell? ⟨b, off + i * 3 + 2, none⟩ = some (.int .i64 y.last) from by rw [hy]; exact hq.im hil')
          rw [← hy] at HFO2
          clear hy
          have dyy : (y.name.toList == y.name.toList) = true := by simp
          go_wp2_with fail
          refine (placeV_any m x.name (i : Int) HPV.out A' c' _ HP1.out.1.toRds (by omega)).mono ?_; rintro e wz ⟨rfl, rfl⟩
          go_wp2_with fail
          refine (find_v HFO2.out HAT.out A' c' _ HP1.out.1.toRds (by omega) HS.out).mono ?_; rintro e wA ⟨rfl, hbA⟩
          have hbY : Below wA.heap.size wA (wA.alloc (.cells y.cells 46)) := (Below.refl _ _).alloc (Nat.le_refl _) _
          have HP2 := Lib.hid (And.intro ((HP1.out.1.below hbA (Nat.le_refl _)).below hbY (Nat.le_refl _)) (And.intro ((HBX.out.belowAll hbA).belowAll hbY) (And.intro (Blk.new wA 46 y.cells) ((HP1.out.2.trans (hbA.mono HP1.out.2.size)).trans (hbY.mono (Nat.le_trans HP1.out.2.size hbA.size))))))
          clear hbA hbY HP1 HBX
          have xc1 := HP2.out.2.1.cell 1
          have xc0 := HP2.out.2.1.cell 0
          have xc2 := HP2.out.2.1.cell 2
          have xc3 := HP2.out.2.1.cell 3
          have xc4 := HP2.out.2.1.cell 4
          have yc0 := HP2.out.2.2.1.cell 0
          have yc1 := HP2.out.2.2.1.cell 1
          have yc2 := HP2.out.2.2.1.cell 2
          simp only [List.getElem?_toArray, List.getElem?_cons_zero, List.getElem?_cons_succ] at xc0 xc1 xc2 xc3 xc4 yc0 yc1 yc2
          obtain ⟨b2, o2, hA2, hb2, m0, m1, m2⟩ := HCM.out _ HP2.out.1.toRds
          subst hA2
          have LP := Lib.hid (fun n3 : Nat => place_q0 m x.name (i : Int) HPV.out (some ⟨b2, o2, none⟩) c' (wA.alloc (.cells y.cells 46)) n3 HP2.out.1.toRds (by omega))
          go_wp2_with fail
          go_quiet (first | (go_at_call 33; with_reducible exact (LP.out _)))
          clear LP m0 m1 m2 HCM
          clear yc0 yc1 yc2
          obtain ⟨G, HG⟩ : ∃ G, Hid (stepA m x = G) := ⟨_, Lib.hid rfl⟩
          have HNG := Lib.hid (HN.out.trans HG.out)
          have hGl : G.length ≤ 51 := by have := stepA_len m x; rw [HG.out] at this; omega
          have HGW := Lib.hid (show ∀ y ∈ G, I64 y.size by rw [← HNG.out]; exact HAN.out.2.2)
          have HGS := Lib.hid (show SortedN G by rw [← HNG.out]; exact HAN.out.1)
          have hw1 : IntKind.i64.wrap ((k : Int) + 1) = (k : Int) + 1 := by rw [IntKind.wrap_i64]; omega
          have dk5 : (0 : Int) ≤ (k : Int) + 1 := by omega
          have dk6 : ((k : Int) + 1).toNat = k + 1 := by omega
          have dk7 : (k : Int) + 1 ≤ (c : Int) := by omega
          have dtt : (totalOf G != totalOf G) = false := by simp
          clear HN HAN HFO2
          by_cases h0 : x.act = 0
          · have d0 : (x.act == 0) = true := beq_iff_eq.2 h0
            have HST := Lib.hid ((stepA_put h0).trans HG.out)
            clear h0
            go_wp2_with fail
            refine (put_v HST.out (some ⟨b2, o2, none⟩) c' _ (HP2.out.1.drewN _).toRds (by omega) HS.out).mono ?_; rintro e wB ⟨A9, c9, rfl, hO, hb⟩
            have hbd := below_drN hb
            have HP3 := Lib.hid (And.intro hO.toRds (And.intro (HP2.out.2.1.belowAll hbd) (HP2.out.2.2.2.trans (hbd.mono HP2.out.2.2.2.size))))
            clear hO hb hbd HP2 xc0 xc1 xc2 xc3 xc4
            go_wp2_with fail
            refine (afterV_any (l.take (k + 1)) G HNG.out _ (k + 1) c (by rw [List.length_take]; omega) _ ((HR.out.take (k + 1)).below HP3.out.2.2) (fun y hy => ⟨(HX.out y (List.mem_of_mem_take hy)).size, (HX.out y (List.mem_of_mem_take hy)).used.below HP3.out.2.2, (HX.out y (List.mem_of_mem_take hy)).len⟩) (by rw [List.length_take]; omega)).mono ?_; rintro e wC ⟨A10, c10, rfl, hO, hb⟩
            have HQ := Lib.hid (And.intro (HP3.out.1.below hb) (And.intro (hO.mono HP3.out.2.2.size) (And.intro (HU.out.below (HP3.out.2.2.trans (hb.mono HP3.out.2.2.size))) (HP3.out.2.2.trans (hb.mono HP3.out.2.2.size)))))
            have HBC := Lib.hid (HP3.out.2.1.belowAll hb)
            have xc4 := HBC.out.cell 4
            simp only [List.getElem?_toArray, List.getElem?_cons_zero, List.getElem?_cons_succ] at xc4
            clear hO hb HP3
            obtain ⟨S, HS2⟩ : ∃ S, Hid (S = orderOf G x.used) := ⟨_, Lib.hid rfl⟩
            have hSl : S.length ≤ 51 := by
              have h : (orderOf G x.used).length = (G.filter (isFree x.used)).length := sortIm_len _
              rw [HS2.out, h]; exact Nat.le_trans (List.length_filter_le _ _) hGl
            go_wp2_with fail
            have HQ := Lib.hid (And.intro HQ.out.1.drew (And.intro HQ.out.2.1.drew (And.intro HQ.out.2.2.1.drew HQ.out.2.2.2.drew)))
            have HBC := Lib.hid HBC.out.drew
            have xc4 := HBC.out.cell 4
            simp only [List.getElem?_toArray, List.getElem?_cons_zero, List.getElem?_cons_succ] at xc4
            go_region_held3 (fun w' => w'.cell? ⟨wr.heap.size, 4, none⟩ = some (.slice x.ua x.used.length x.uc)) (with_reducible assumption)
             (first
              | (go_at_call 34; have hh4 := HR4.out; have hh5 := HR5.out; refine (sameI_self S A11 A12 c11 c12 _ hh4 hh5 (by omega)).mono ?_; rintro e v6 ⟨rfl, hb⟩; have HQ := Lib.hid (And.intro (HQ.out.1.below hb) (And.intro (HQ.out.2.1.below hb (Nat.le_refl _)) (And.intro (HQ.out.2.2.1.below hb) (HQ.out.2.2.2.trans (hb.mono HQ.out.2.2.2.size))))); have HBC := Lib.hid (HBC.out.belowAll hb); have xc4 := HBC.out.cell 4; simp only [List.getElem?_toArray, List.getElem?_cons_zero, List.getElem?_cons_succ] at xc4; clear hb hh4 hh5)
              | (go_at_call 34; refine (sameI_self G A9 A10 c9 c10 _ HQ.out.1 HQ.out.2.1.toRds (by omega)).mono ?_; rintro e v1 ⟨rfl, hb⟩; have HQ := Lib.hid (And.intro (HQ.out.1.below hb) (And.intro (HQ.out.2.1.below hb (Nat.le_refl _)) (And.intro (HQ.out.2.2.1.below hb) (HQ.out.2.2.2.trans (hb.mono HQ.out.2.2.2.size))))); have HBC := Lib.hid (HBC.out.belowAll hb); have xc4 := HBC.out.cell 4; simp only [List.getElem?_toArray, List.getElem?_cons_zero, List.getElem?_cons_succ] at xc4; clear hb)
              | (go_at_call 42; refine (total_any G A9 c9 _ HQ.out.1 (by omega) HGW.out).mono ?_; rintro e v2 ⟨rfl, hb⟩; have HQ := Lib.hid (And.intro (HQ.out.1.below hb) (And.intro (HQ.out.2.1.below hb (Nat.le_refl _)) (And.intro (HQ.out.2.2.1.below hb) (HQ.out.2.2.2.trans (hb.mono HQ.out.2.2.2.size))))); have HBC := Lib.hid (HBC.out.belowAll hb); have xc4 := HBC.out.cell 4; simp only [List.getElem?_toArray, List.getElem?_cons_zero, List.getElem?_cons_succ] at xc4; clear hb)
              | (go_at_call 43; refine (refTotal_any G A10 c10 _ HQ.out.2.1.toRds (by omega) HGW.out).mono ?_; rintro e v3 ⟨rfl, rfl⟩)
              | (go_at_call 44; refine (orderV_any HS2.out.symm A9 x.ua c9 x.uc _ HQ.out.1 HQ.out.2.2.1 (by omega) hul).mono ?_; rintro e v4 ⟨A11, c11, rfl, hO, hb⟩; have HQ := Lib.hid (And.intro (HQ.out.1.below hb) (And.intro (HQ.out.2.1.below hb (Nat.le_refl _)) (And.intro (HQ.out.2.2.1.below hb) (HQ.out.2.2.2.trans (hb.mono HQ.out.2.2.2.size))))); have HR4 := Lib.hid hO.toRds; (try (have HR5 := Lib.hid (HR5.out.below hb))); have HBC := Lib.hid (HBC.out.belowAll hb); have xc4 := HBC.out.cell 4; simp only [List.getElem?_toArray, List.getElem?_cons_zero, List.getElem?_cons_succ] at xc4; clear hb hO)
              | (go_at_call 45; refine (refOrderD_any G x.used S HS2.out A10 x.ua c10 x.uc _ HQ.out.2.1.toRds HQ.out.2.2.1 (by omega) hul (sorted_nodup HGS.out)).mono ?_; rintro e v5 ⟨A12, c12, rfl, hO, hb⟩; have HQ := Lib.hid (And.intro (HQ.out.1.below hb) (And.intro (HQ.out.2.1.below hb (Nat.le_refl _)) (And.intro (HQ.out.2.2.1.below hb) (HQ.out.2.2.2.trans (hb.mono HQ.out.2.2.2.size))))); have HR5 := Lib.hid hO.toRds; (try (have HR4 := Lib.hid (HR4.out.below hb))); have HBC := Lib.hid (HBC.out.belowAll hb); have xc4 := HBC.out.cell 4; simp only [List.getElem?_toArray, List.getElem?_cons_zero, List.getElem?_cons_succ] at xc4; clear hb hO))
            all_goals
              go_wp2_with fail
              go_roundw
              case rel => exact ⟨k + 1, G, A10, c10, by omega, by go_num, HNG.out.symm, rfl, HQ.out.2.1, HQ.out.2.2.2⟩
              case measure => simp [intOf]; omega
          · have d0 : (x.act == 0) = false := beq_eq_false_iff_ne.2 h0
            by_cases h1 : x.act = 1
            · have d1 : (x.act == 1) = true := beq_iff_eq.2 h1
              have HST := Lib.hid ((stepA_touch h0 h1).trans HG.out)
              clear h0 h1
              go_wp2_with fail
              refine (touch_v HST.out (some ⟨b2, o2, none⟩) x.ua c' x.uc _ (HP2.out.1.drewN _).toRds (HU.out.below (HP2.out.2.2.2.trans ((below_ofDrewN (w := (wA.alloc (.cells y.cells 46))) ⟨_, rfl⟩).mono HP2.out.2.2.2.size))) (by omega) hul HS.out).mono ?_; rintro e wB ⟨A9, c9, rfl, hO, hb⟩
              have hbd := below_drN hb
              have HP3 := Lib.hid (And.intro hO.toRds (And.intro (HP2.out.2.1.belowAll hbd) (HP2.out.2.2.2.trans (hbd.mono HP2.out.2.2.2.size))))
              clear hO hb hbd HP2 xc0 xc1 xc2 xc3 xc4
              go_wp2_with fail
              refine (afterV_any (l.take (k + 1)) G HNG.out _ (k + 1) c (by rw [List.length_take]; omega) _ ((HR.out.take (k + 1)).below HP3.out.2.2) (fun y hy => ⟨(HX.out y (List.mem_of_mem_take hy)).size, (HX.out y (List.mem_of_mem_take hy)).used.below HP3.out.2.2, (HX.out y (List.mem_of_mem_take hy)).len⟩) (by rw [List.length_take]; omega)).mono ?_; rintro e wC ⟨A10, c10, rfl, hO, hb⟩
              have HQ := Lib.hid (And.intro (HP3.out.1.below hb) (And.intro (hO.mono HP3.out.2.2.size) (And.intro (HU.out.below (HP3.out.2.2.trans (hb.mono HP3.out.2.2.size))) (HP3.out.2.2.trans (hb.mono HP3.out.2.2.size)))))
              have HBC := Lib.hid (HP3.out.2.1.belowAll hb)
              have xc4 := HBC.out.cell 4
              simp only [List.getElem?_toArray, List.getElem?_cons_zero, List.getElem?_cons_succ] at xc4
              clear hO hb HP3
              obtain ⟨S, HS2⟩ : ∃ S, Hid (S = orderOf G x.used) := ⟨_, Lib.hid rfl⟩
              have hSl : S.length ≤ 51 := by
                have h : (orderOf G x.used).length = (G.filter (isFree x.used)).length := sortIm_len _
                rw [HS2.out, h]; exact Nat.le_trans (List.length_filter_le _ _) hGl
              go_wp2_with fail
              have HQ := Lib.hid (And.intro HQ.out.1.drew (And.intro HQ.out.2.1.drew (And.intro HQ.out.2.2.1.drew HQ.out.2.2.2.drew)))
              have HBC := Lib.hid HBC.out.drew
              have xc4 := HBC.out.cell 4
              simp only [List.getElem?_toArray, List.getElem?_cons_zero, List.getElem?_cons_succ] at xc4
              go_region_held3 (fun w' => w'.cell? ⟨wr.heap.size, 4, none⟩ = some (.slice x.ua x.used.length x.uc)) (with_reducible assumption)
               (first
                | (go_at_call 34; have hh4 := HR4.out; have hh5 := HR5.out; refine (sameI_self S A11 A12 c11 c12 _ hh4 hh5 (by omega)).mono ?_; rintro e v6 ⟨rfl, hb⟩; have HQ := Lib.hid (And.intro (HQ.out.1.below hb) (And.intro (HQ.out.2.1.below hb (Nat.le_refl _)) (And.intro (HQ.out.2.2.1.below hb) (HQ.out.2.2.2.trans (hb.mono HQ.out.2.2.2.size))))); have HBC := Lib.hid (HBC.out.belowAll hb); have xc4 := HBC.out.cell 4; simp only [List.getElem?_toArray, List.getElem?_cons_zero, List.getElem?_cons_succ] at xc4; clear hb hh4 hh5)
                | (go_at_call 34; refine (sameI_self G A9 A10 c9 c10 _ HQ.out.1 HQ.out.2.1.toRds (by omega)).mono ?_; rintro e v1 ⟨rfl, hb⟩; have HQ := Lib.hid (And.intro (HQ.out.1.below hb) (And.intro (HQ.out.2.1.below hb (Nat.le_refl _)) (And.intro (HQ.out.2.2.1.below hb) (HQ.out.2.2.2.trans (hb.mono HQ.out.2.2.2.size))))); have HBC := Lib.hid (HBC.out.belowAll hb); have xc4 := HBC.out.cell 4; simp only [List.getElem?_toArray, List.getElem?_cons_zero, List.getElem?_cons_succ] at xc4; clear hb)
                | (go_at_call 42; refine (total_any G A9 c9 _ HQ.out.1 (by omega) HGW.out).mono ?_; rintro e v2 ⟨rfl, hb⟩; have HQ := Lib.hid (And.intro (HQ.out.1.below hb) (And.intro (HQ.out.2.1.below hb (Nat.le_refl _)) (And.intro (HQ.out.2.2.1.below hb) (HQ.out.2.2.2.trans (hb.mono HQ.out.2.2.2.size))))); have HBC := Lib.hid (HBC.out.belowAll hb); have xc4 := HBC.out.cell 4; simp only [List.getElem?_toArray, List.getElem?_cons_zero, List.getElem?_cons_succ] at xc4; clear hb)
                | (go_at_call 43; refine (refTotal_any G A10 c10 _ HQ.out.2.1.toRds (by omega) HGW.out).mono ?_; rintro e v3 ⟨rfl, rfl⟩)
                | (go_at_call 44; refine (orderV_any HS2.out.symm A9 x.ua c9 x.uc _ HQ.out.1 HQ.out.2.2.1 (by omega) hul).mono ?_; rintro e v4 ⟨A11, c11, rfl, hO, hb⟩; have HQ := Lib.hid (And.intro (HQ.out.1.below hb) (And.intro (HQ.out.2.1.below hb (Nat.le_refl _)) (And.intro (HQ.out.2.2.1.below hb) (HQ.out.2.2.2.trans (hb.mono HQ.out.2.2.2.size))))); have HR4 := Lib.hid hO.toRds; (try (have HR5 := Lib.hid (HR5.out.below hb))); have HBC := Lib.hid (HBC.out.belowAll hb); have xc4 := HBC.out.cell 4; simp only [List.getElem?_toArray, List.getElem?_cons_zero, List.getElem?_cons_succ] at xc4; clear hb hO)
                | (go_at_call 45; refine (refOrderD_any G x.used S HS2.out A10 x.ua c10 x.uc _ HQ.out.2.1.toRds HQ.out.2.2.1 (by omega) hul (sorted_nodup HGS.out)).mono ?_; rintro e v5 ⟨A12, c12, rfl, hO, hb⟩; have HQ := Lib.hid (And.intro (HQ.out.1.below hb) (And.intro (HQ.out.2.1.below hb (Nat.le_refl _)) (And.intro (HQ.out.2.2.1.below hb) (HQ.out.2.2.2.trans (hb.mono HQ.out.2.2.2.size))))); have HR5 := Lib.hid hO.toRds; (try (have HR4 := Lib.hid (HR4.out.below hb))); have HBC := Lib.hid (HBC.out.belowAll hb); have xc4 := HBC.out.cell 4; simp only [List.getElem?_toArray, List.getElem?_cons_zero, List.getElem?_cons_succ] at xc4; clear hb hO))
              all_goals
                go_wp2_with fail
                go_roundw
                case rel => exact ⟨k + 1, G, A10, c10, by omega, by go_num, HNG.out.symm, rfl, HQ.out.2.1, HQ.out.2.2.2⟩
                case measure => simp [intOf]; omega
            · have d1 : (x.act == 1) = false := beq_eq_false_iff_ne.2 h1
              have HST := Lib.hid ((stepA_drop HS.out h0 h1).trans HG.out)
              clear h0 h1
              go_wp2_with fail
              refine (drop_v HST.out HAT.out (some ⟨b2, o2, none⟩) c' _ (HP2.out.1.drewN _).toRds (by omega) HS.out).mono ?_; rintro e wB ⟨A9, c9, rfl, hO, hb⟩
              have hbd := below_drN hb
              have HP3 := Lib.hid (And.intro hO.toRds (And.intro (HP2.out.2.1.belowAll hbd) (HP2.out.2.2.2.trans (hbd.mono HP2.out.2.2.2.size))))
              clear hO hb hbd HP2 xc0 xc1 xc2 xc3 xc4
              go_wp2_with fail
              refine (afterV_any (l.take (k + 1)) G HNG.out _ (k + 1) c (by rw [List.length_take]; omega) _ ((HR.out.take (k + 1)).below HP3.out.2.2) (fun y hy => ⟨(HX.out y (List.mem_of_mem_take hy)).size, (HX.out y (List.mem_of_mem_take hy)).used.below HP3.out.2.2, (HX.out y (List.mem_of_mem_take hy)).len⟩) (by rw [List.length_take]; omega)).mono ?_; rintro e wC ⟨A10, c10, rfl, hO, hb⟩
              have HQ := Lib.hid (And.intro (HP3.out.1.below hb) (And.intro (hO.mono HP3.out.2.2.size) (And.intro (HU.out.below (HP3.out.2.2.trans (hb.mono HP3.out.2.2.size))) (HP3.out.2.2.trans (hb.mono HP3.out.2.2.size)))))
              have HBC := Lib.hid (HP3.out.2.1.belowAll hb)
              have xc4 := HBC.out.cell 4
              simp only [List.getElem?_toArray, List.getElem?_cons_zero, List.getElem?_cons_succ] at xc4
              clear hO hb HP3
              obtain ⟨S, HS2⟩ : ∃ S, Hid (S = orderOf G x.used) := ⟨_, Lib.hid rfl⟩
              have hSl : S.length ≤ 51 := by
                have h : (orderOf G x.used).length = (G.filter (isFree x.used)).length := sortIm_len _
                rw [HS2.out, h]; exact Nat.le_trans (List.length_filter_le _ _) hGl
              go_wp2_with fail
              have HQ := Lib.hid (And.intro HQ.out.1.drew (And.intro HQ.out.2.1.drew (And.intro HQ.out.2.2.1.drew HQ.out.2.2.2.drew)))
              have HBC := Lib.hid HBC.out.drew
              have xc4 := HBC.out.cell 4
              simp only [List.getElem?_toArray, List.getElem?_cons_zero, List.getElem?_cons_succ] at xc4
              go_region_held3 (fun w' => w'.cell? ⟨wr.heap.size, 4, none⟩ = some (.slice x.ua x.used.length x.uc)) (with_reducible assumption)
               (first
                | (go_at_call 34; have hh4 := HR4.out; have hh5 := HR5.out; refine (sameI_self S A11 A12 c11 c12 _ hh4 hh5 (by omega)).mono ?_; rintro e v6 ⟨rfl, hb⟩; have HQ := Lib.hid (And.intro (HQ.out.1.below hb) (And.intro (HQ.out.2.1.below hb (Nat.le_refl _)) (And.intro (HQ.out.2.2.1.below hb) (HQ.out.2.2.2.trans (hb.mono HQ.out.2.2.2.size))))); have HBC := Lib.hid (HBC.out.belowAll hb); have xc4 := HBC.out.cell 4; simp only [List.getElem?_toArray, List.getElem?_cons_zero, List.getElem?_cons_succ] at xc4; clear hb hh4 hh5)
                | (go_at_call 34; refine (sameI_self G A9 A10 c9 c10 _ HQ.out.1 HQ.out.2.1.toRds (by omega)).mono ?_; rintro e v1 ⟨rfl, hb⟩; have HQ := Lib.hid (And.intro (HQ.out.1.below hb) (And.intro (HQ.out.2.1.below hb (Nat.le_refl _)) (And.intro (HQ.out.2.2.1.below hb) (HQ.out.2.2.2.trans (hb.mono HQ.out.2.2.2.size))))); have HBC := Lib.hid (HBC.out.belowAll hb); have xc4 := HBC.out.cell 4; simp only [List.getElem?_toArray, List.getElem?_cons_zero, List.getElem?_cons_succ] at xc4; clear hb)
                | (go_at_call 42; refine (total_any G A9 c9 _ HQ.out.1 (by omega) HGW.out).mono ?_; rintro e v2 ⟨rfl, hb⟩; have HQ := Lib.hid (And.intro (HQ.out.1.below hb) (And.intro (HQ.out.2.1.below hb (Nat.le_refl _)) (And.intro (HQ.out.2.2.1.below hb) (HQ.out.2.2.2.trans (hb.mono HQ.out.2.2.2.size))))); have HBC := Lib.hid (HBC.out.belowAll hb); have xc4 := HBC.out.cell 4; simp only [List.getElem?_toArray, List.getElem?_cons_zero, List.getElem?_cons_succ] at xc4; clear hb)
                | (go_at_call 43; refine (refTotal_any G A10 c10 _ HQ.out.2.1.toRds (by omega) HGW.out).mono ?_; rintro e v3 ⟨rfl, rfl⟩)
                | (go_at_call 44; refine (orderV_any HS2.out.symm A9 x.ua c9 x.uc _ HQ.out.1 HQ.out.2.2.1 (by omega) hul).mono ?_; rintro e v4 ⟨A11, c11, rfl, hO, hb⟩; have HQ := Lib.hid (And.intro (HQ.out.1.below hb) (And.intro (HQ.out.2.1.below hb (Nat.le_refl _)) (And.intro (HQ.out.2.2.1.below hb) (HQ.out.2.2.2.trans (hb.mono HQ.out.2.2.2.size))))); have HR4 := Lib.hid hO.toRds; (try (have HR5 := Lib.hid (HR5.out.below hb))); have HBC := Lib.hid (HBC.out.belowAll hb); have xc4 := HBC.out.cell 4; simp only [List.getElem?_toArray, List.getElem?_cons_zero, List.getElem?_cons_succ] at xc4; clear hb hO)
                | (go_at_call 45; refine (refOrderD_any G x.used S HS2.out A10 x.ua c10 x.uc _ HQ.out.2.1.toRds HQ.out.2.2.1 (by omega) hul (sorted_nodup HGS.out)).mono ?_; rintro e v5 ⟨A12, c12, rfl, hO, hb⟩; have HQ := Lib.hid (And.intro (HQ.out.1.below hb) (And.intro (HQ.out.2.1.below hb (Nat.le_refl _)) (And.intro (HQ.out.2.2.1.below hb) (HQ.out.2.2.2.trans (hb.mono HQ.out.2.2.2.size))))); have HR5 := Lib.hid hO.toRds; (try (have HR4 := Lib.hid (HR4.out.below hb))); have HBC := Lib.hid (HBC.out.belowAll hb); have xc4 := HBC.out.cell 4; simp only [List.getElem?_toArray, List.getElem?_cons_zero, List.getElem?_cons_succ] at xc4; clear hb hO))
              all_goals
                go_wp2_with fail
                go_roundw
                case rel => exact ⟨k + 1, G, A10, c10, by omega, by go_num, HNG.out.symm, rfl, HQ.out.2.1, HQ.out.2.2.2⟩
                case measure => simp [intOf]; omega
      · obtain rfl : k = l.length := by omega
        have dk : decide ((l.length : Int) < (l.length : Int)) = false := by simp
        go_wp2_with fail
        go_ret
        exact ⟨rfl, HP.out.2⟩
end Go.Proofs.Ytfaklhdafpbkmaa
