/- bilgelaw20.RankTable: the order doesn't hang on the table's order, nor on pods that may not be evicted. -/
import Derived.Test.YtlnpmdchhmbblaaRankTab
import Derived.Test.YtlnpmdchhmbblaaPushA
namespace Go.Proofs.Ytlnpmdchhmbblaa
open Go.RowKit
theorem drop_rev {l : List En} {k : Nat} (hk : k < l.length) : (l.drop k).reverse = (l.drop (k + 1)).reverse ++ [l[k]] := by rw [List.drop_eq_getElem_cons hk, List.reverse_cons]
theorem filt_snoc (B : List En) (x : En) : (B ++ [x]).filter mayB = B.filter mayB ++ (if mayB x then [x] else []) := by
  rw [List.filter_append]; congr 1; cases h : mayB x <;> simp [h]
theorem orderD_filter (k : Int) (l : List En) (us : List Us) : orderD k (l.filter mayB) us = orderD k l us := by
  unfold orderD keysD; rw [List.filter_filter]; simp
set_option maxRecDepth 100000 in
set_option maxHeartbeats 16000000 in
theorem rankTable_any (n : UInt8) (l : List En) (A : Option Addr) (c : Nat) (r : Rw) (w : World) (ht : Rds w encN A l) (hw : ∀ x ∈ l, x.pod.Wf ∧ I64 x.phase) (hm : l.length ≤ 9223372036854775807) (hr : r.Wf w) :
    Calls Try.prog 9 #[.int .u8 n.toNat, .slice A l.length c, .agg r.cells] w fun e w' => e = .returned (.bool true) ∧ Below w.heap.size w w' := by
  have mixed : Try.prog.follows Departure.mixedOrders = true := by kernel_rfl
  have HQ := Lib.hid (OT.new l A r w hr ht)
  have HW := Lib.hid hw
  clear hw hr ht
  go_enter Try.func9, Try.ntmps9
  go_wp2_with fail
  refine (awake20_any _).mono ?_; rintro e w1 ⟨rfl, hb⟩
  have HQ := Lib.hid (HQ.out.below hb)
  clear hb
  
  by_cases hft : FitE l
  rotate_left
  · go_wp2_with fail
    refine (fitN_any hft HQ.out.tb HW.out hm).mono ?_; rintro e wv ⟨rfl, hb⟩
    have HQ := Lib.hid (HQ.out.below hb)
    clear hb 
    clear hft
    go_wp2_with fail
    refine (awake20_any _).mono ?_; rintro e w9 ⟨rfl, hb⟩
    have HQ := Lib.hid (HQ.out.below hb)
    clear hb
    go_wp2_with fail
    go_ret
    exact ⟨rfl, HQ.out.bel⟩
  · go_wp2_with fail
    refine (fitY_any hft HQ.out.tb HW.out hm).mono ?_; rintro e wv ⟨rfl, hb⟩
    have HQ := Lib.hid (HQ.out.below hb)
    clear hb 
    have Hhft := Lib.hid hft
    clear hft
    have crw := HQ.out.rw.cell
    cases hfr : fewR r.uses
    · go_wp2_with fail
      refine (fewW_any hfr HQ.out.wf).mono ?_; rintro e wv ⟨rfl, hb⟩
      have HQ := Lib.hid (HQ.out.below hb)
      clear hb crw
      clear hfr
      go_wp2_with fail
      refine (awake20_any _).mono ?_; rintro e w9 ⟨rfl, hb⟩
      have HQ := Lib.hid (HQ.out.below hb)
      clear hb
      go_wp2_with fail
      go_ret
      exact ⟨rfl, HQ.out.bel⟩
    · go_wp2_with fail
      refine (fewW_any hfr HQ.out.wf).mono ?_; rintro e wv ⟨rfl, hb⟩
      have HQ := Lib.hid (HQ.out.below hb)
      clear hb crw
      have Hhfr := Lib.hid hfr
      clear hfr
      have crw := HQ.out.rw.cell
      by_cases hr : RightR r
      rotate_left
      · go_wp2_with fail
        refine (rightN_any hr HQ.out.wf).mono ?_; rintro e wv ⟨rfl, hb⟩
        have HQ := Lib.hid (HQ.out.below hb)
        clear hb crw
        clear hr
        go_wp2_with fail
        refine (awake20_any _).mono ?_; rintro e w9 ⟨rfl, hb⟩
        have HQ := Lib.hid (HQ.out.below hb)
        clear hb
        go_wp2_with fail
        go_ret
        exact ⟨rfl, HQ.out.bel⟩
      · go_wp2_with fail
        refine (rightY_any hr HQ.out.wf).mono ?_; rintro e wv ⟨rfl, hb⟩
        have HQ := Lib.hid (HQ.out.below hb)
        clear hb crw
        have Hhr := Lib.hid hr
        clear hr
        obtain ⟨k, hk⟩ : ∃ k : Int, (n.toNat : Int) % 3 = k := ⟨_, rfl⟩
        have HKK : Hid (k = 0 ∨ k = 1 ∨ k = 2) := by show _ ∨ _; rw [← hk]; exact signal_cases n
        have HSG := Lib.hid (fun W => signalV hk W)
        clear hk
        obtain ⟨V0, HV0⟩ : ∃ V, Hid (readN r.v0 = V) := ⟨_, Lib.hid rfl⟩
        obtain ⟨V1, HV1⟩ : ∃ V, Hid (readN r.v1 = V) := ⟨_, Lib.hid rfl⟩
        obtain ⟨V2, HV2⟩ : ∃ V, Hid (readN r.v2 = V) := ⟨_, Lib.hid rfl⟩
        obtain ⟨us, HUS⟩ : ∃ us, Hid (readUses r.uses = us) := ⟨_, Lib.hid rfl⟩
        have HU : Hid (UsOk k us) := by show UsOk k us; rw [← HUS.out]; exact usOk_raw Hhr.out k
        go_wp2_with fail
        refine (HSG.out _).mono ?_; rintro e wk ⟨rfl, rfl⟩
        have crw := HQ.out.rw.cell
        go_wp2_with fail
        refine (readW_any HV0.out HV1.out HV2.out HUS.out Hhr.out HQ.out.wf).mono ?_; rintro e wr ⟨AU, cU, rfl, hO, hb⟩
        have HQ := Lib.hid (HQ.out.below hb)
        have HRU := Lib.hid hO.toRds
        clear hb hO crw HSG HV0 HV1 HV2 HUS
        have HTB := Lib.hid (Tb.of Hhft.out HW.out)
        have hlen : l.length ≤ 64 := Hhft.out.len
        have HQ := Lib.hid (HQ.out.alloc (.cells #[.int .i64 r.time, .int .i64 V0, .int .i64 V1, .int .i64 V2, .slice AU us.length cU] 36))
        have HS : Hid (SB (⟨r.time, V0, V1, V2, AU, us, cU⟩ : Sp) wr.heap.size (wr.alloc (.cells #[.int .i64 r.time, .int .i64 V0, .int .i64 V1, .int .i64 V2, .slice AU us.length cU] 36))) := SB.new (⟨r.time, V0, V1, V2, AU, us, cU⟩ : Sp) wr HRU.out
        clear HRU
        obtain ⟨O, HO⟩ : ∃ O, Hid (orderD k l us = O) := ⟨_, Lib.hid rfl⟩
        have hOl : O.length ≤ 64 := by rw [← HO.out]; exact Nat.le_trans (orderD_le k l us) hlen
        have hz0 : ∃ z : Int, z = (l.length : Int) - 1 := ⟨_, rfl⟩
        have hwz : IntKind.i64.wrap ((l.length : Int) - 1) = (l.length : Int) - 1 := by rw [IntKind.wrap_i64]; omega
        go_wp2_with fail
        obtain ⟨W2, hW2⟩ : ∃ W2, W2 = (wr.alloc (.cells #[.int .i64 r.time, .int .i64 V0, .int .i64 V1, .int .i64 V2, .slice AU us.length cU] 36)) := ⟨_, rfl⟩
        rw [← hW2] at HQ HS ⊢
        clear hW2
        generalize wr.heap.size = n at *
        go_loopw [9, 10, 11] (fun bk sm ii wq => ∃ (j : Nat) (B S : List En) (A1 A2 : Option Addr) (c1 c2 : Nat) (z : Int), j ≤ l.length ∧ ii = .int .i64 z ∧ z + 1 = (j : Int) ∧ B = (l.drop j).reverse ∧ S = B.filter mayB ∧ bk = .slice A1 B.length c1 ∧ sm = .slice A2 S.length c2 ∧ Own wq W2.heap.size 48 encN (.slice A1 B.length c1) B ∧ Own wq W2.heap.size 48 encN (.slice A2 S.length c2) S ∧ Apart (.slice A1 B.length c1) (.slice A2 S.length c2) ∧ Below W2.heap.size W2 wq) (fun _ _ ii _ => (intOf ii + 1).toNat)
        case atStart => exact ⟨l.length, [], [], none, none, 0, 0, (l.length : Int) - 1, by omega, rfl, by omega, by simp, rfl, rfl, rfl, Own.nil_ _ _ _ _, Own.nil_ _ _ _ _, Apart.nilL _, Below.refl _ _⟩
        case round =>
          clear hz0 hwz
          obtain ⟨j, B, S, A1, A2, c1, c2, z, hj, rfl, hz, hB, hS, rfl, rfl, hob, hos, hap, hbl⟩ := hrel
          have hBl : B.length ≤ 64 := by rw [hB, List.length_reverse, List.length_drop]; omega
          have hSl : S.length ≤ 64 := by rw [hS]; exact Nat.le_trans (List.length_filter_le _ _) hBl
          have HBS := Lib.hid (And.intro hB hS)
          have HP := Lib.hid (And.intro hob (And.intro hos (And.intro hap hbl)))
          clear hB hS hob hos hap hbl
          by_cases h0 : 0 < j
          · obtain ⟨i, hi⟩ : ∃ i, j = i + 1 := ⟨j - 1, by omega⟩
            subst hi
            obtain rfl : z = (i : Int) := by omega
            clear hz h0
            have hil : i < l.length := by omega
            have dz : decide ((0 : Int) ≤ (i : Int)) = true := decide_eq_true (by omega)
            have di2 : (i : Int) < (l.length : Int) := by omega
            have hwi : IntKind.i64.wrap ((i : Int) - 1) = (i : Int) - 1 := by rw [IntKind.wrap_i64]; omega
            obtain ⟨b0, off, hA, _⟩ := HQ.out.tb.en hil
            obtain rfl : A = some ⟨b0, off, none⟩ := hA
            have HXI := Lib.hid (List.getElem?_eq_getElem hil)
            have HBN := Lib.hid (show (l.drop i).reverse = B ++ [l[i]] by rw [drop_rev hil, HBS.out.1])
            have HSN := Lib.hid (show (B ++ [l[i]]).filter mayB = S ++ (if mayB l[i] then [l[i]] else []) by rw [filt_snoc, ← HBS.out.2])
            generalize l[i] = x at *
            have HCell := Lib.hid (fun (W : World) (h : Below W2.heap.size W2 W) => HQ.out.tb.enAt h HXI.out)
            obtain ⟨x0, x1, x2, x3, x4, x5, x6, x7, x8, x9, x10, x11⟩ := HCell.out _ HP.out.2.2.2
            clear HBS
            cases hmx : mayB x
            · have HM := Lib.hid hmx
              have HS2 : Hid (S = (B ++ [x]).filter mayB) := by show _ = _; rw [HSN.out, hmx]; simp
              clear hmx HSN
              go_wp2_with (at_builtin; refine wl_pushA elemN encN rfl (.tmp 42) (.tmp 47) rfl x #[.string x.pod.id, .int .i64 x.pod.prio, .bool x.pod.crit, .int .i64 x.pod.q0, .int .i64 x.pod.q1, .int .i64 x.pod.q2, .int .i64 x.pod.l0, .int .i64 x.pod.l1, .int .i64 x.pod.l2, .string x.pod.image, .int .i64 x.pod.size, .int .i64 x.phase] rfl W2.heap.size _ B rfl HP.out.1 rfl rfl HP.out.2.2.2 (by omega) (by omega) HP.out.2.2.2.size ?_; intro A3 k3 w3 ho hb hg hd; have HX3 := Lib.hid (And.intro ho (And.intro ((HP.out.2.1.alloc _).grown hg HP.out.2.2.1.ne) (And.intro (HP.out.2.2.1.next hd fun g hg => by have := (HP.out.2.1.block_lt g hg).2; omega) hb))); clear ho hb hg hd x0 x1 x2 x3 x4 x5 x6 x7 x8 x9 x10 x11; obtain ⟨x0, x1, x2, x3, x4, x5, x6, x7, x8, x9, x10, x11⟩ := HCell.out _ HX3.out.2.2.2)
              refine (mayW (x := x) HM.out _).mono ?_; rintro e w4 ⟨rfl, hb⟩
              have HX4 := Lib.hid (And.intro (HX3.out.1.below hb (Nat.le_refl _)) (And.intro (HX3.out.2.1.below hb (Nat.le_refl _)) (And.intro HX3.out.2.2.1 (HX3.out.2.2.2.trans (hb.mono HX3.out.2.2.2.size)))))
              clear hb x0 x1 x2 x3 x4 x5 x6 x7 x8 x9 x10 x11
              go_wp2_with fail
              go_roundw
              case rel => exact ⟨i, B ++ [x], S, A3, A2, k3, c2, (i : Int) - 1, by omega, rfl, by omega, HBN.out.symm, HS2.out, by simp, rfl, own_len1 HX4.out.1, HX4.out.2.1, by rw [List.length_append]; exact HX4.out.2.2.1, HX4.out.2.2.2⟩
              case measure => first | (simp [intOf]; done) | (simp [intOf]; omega)
            · have HM := Lib.hid hmx
              have HS2 : Hid (S ++ [x] = (B ++ [x]).filter mayB) := by show _ = _; rw [HSN.out, hmx]; simp
              clear hmx HSN
              go_wp2_with (at_builtin; refine wl_pushA elemN encN rfl (.tmp 42) (.tmp 47) rfl x #[.string x.pod.id, .int .i64 x.pod.prio, .bool x.pod.crit, .int .i64 x.pod.q0, .int .i64 x.pod.q1, .int .i64 x.pod.q2, .int .i64 x.pod.l0, .int .i64 x.pod.l1, .int .i64 x.pod.l2, .string x.pod.image, .int .i64 x.pod.size, .int .i64 x.phase] rfl W2.heap.size _ B rfl HP.out.1 rfl rfl HP.out.2.2.2 (by omega) (by omega) HP.out.2.2.2.size ?_; intro A3 k3 w3 ho hb hg hd; have HX3 := Lib.hid (And.intro ho (And.intro ((HP.out.2.1.alloc _).grown hg HP.out.2.2.1.ne) (And.intro (HP.out.2.2.1.next hd fun g hg => by have := (HP.out.2.1.block_lt g hg).2; omega) hb))); clear ho hb hg hd x0 x1 x2 x3 x4 x5 x6 x7 x8 x9 x10 x11; obtain ⟨x0, x1, x2, x3, x4, x5, x6, x7, x8, x9, x10, x11⟩ := HCell.out _ HX3.out.2.2.2)
              refine (mayW (x := x) HM.out _).mono ?_; rintro e w4 ⟨rfl, hb⟩
              have HX4 := Lib.hid (And.intro (HX3.out.1.below hb (Nat.le_refl _)) (And.intro (HX3.out.2.1.below hb (Nat.le_refl _)) (And.intro HX3.out.2.2.1 (HX3.out.2.2.2.trans (hb.mono HX3.out.2.2.2.size)))))
              clear hb x0 x1 x2 x3 x4 x5 x6 x7 x8 x9 x10 x11
              obtain ⟨x0, x1, x2, x3, x4, x5, x6, x7, x8, x9, x10, x11⟩ := HCell.out _ HX4.out.2.2.2
              go_wp2_with (at_builtin; refine wl_pushA elemN encN rfl (.tmp 54) (.tmp 59) rfl x #[.string x.pod.id, .int .i64 x.pod.prio, .bool x.pod.crit, .int .i64 x.pod.q0, .int .i64 x.pod.q1, .int .i64 x.pod.q2, .int .i64 x.pod.l0, .int .i64 x.pod.l1, .int .i64 x.pod.l2, .string x.pod.image, .int .i64 x.pod.size, .int .i64 x.phase] rfl W2.heap.size _ S rfl HX4.out.2.1 rfl rfl HX4.out.2.2.2 (by omega) (by omega) HX4.out.2.2.2.size ?_; intro A5 k5 w5 ho hb hg hd; have HX5 := Lib.hid (And.intro ((HX4.out.1.alloc _).grown hg HX4.out.2.2.1.symm.ne) (And.intro ho (And.intro (HX4.out.2.2.1.symm.next hd fun g hg => by have := (HX4.out.1.block_lt g hg).2; omega).symm hb))); clear ho hb hg hd)
              go_roundw
              case rel => exact ⟨i, B ++ [x], S ++ [x], A3, A5, k3, k5, (i : Int) - 1, by omega, rfl, by omega, HBN.out.symm, HS2.out, by simp, by simp, own_len1 HX5.out.1, own_len1 HX5.out.2.1, by rw [List.length_append, List.length_append]; exact HX5.out.2.2.1, HX5.out.2.2.2⟩
              case measure => first | (simp [intOf]; done) | (simp [intOf]; omega)
          · obtain rfl : j = 0 := by omega
            obtain rfl : z = -1 := by omega
            have dz : decide ((0 : Int) ≤ -1) = false := rfl
            rw [List.drop_zero] at HBS
            have HB2 : Hid (orderD k B us = O) := by show _ = _; rw [HBS.out.1, ← HO.out]; exact orderD_perm (List.reverse_perm l)
            have HS2 : Hid (orderD k S us = O) := by show _ = _; rw [HBS.out.2, orderD_filter]; exact HB2.out
            have hSO : O.length = S.length := by rw [← HO.out, orderD_len, HBS.out.2, HBS.out.1]; exact ((List.reverse_perm l).filter mayB).length_eq.symm
            have HTBB := Lib.hid (show Tb B from fun x hx => HTB.out x (by rw [HBS.out.1] at hx; simpa using hx))
            have HTBS := Lib.hid (show Tb S from fun x hx => HTBB.out x (by rw [HBS.out.2] at hx; exact (List.mem_filter.1 hx).1))
            have HSO := Lib.hid hSO
            have dSO : ((O.length : Int) == (S.length : Int)) = true := by rw [hSO]; simp
            clear hSO HBS
            have HQ := Lib.hid (HQ.out.below HP.out.2.2.2)
            have HS := Lib.hid (HS.out.below HP.out.2.2.2)
            have HR2 := Lib.hid (And.intro HP.out.1.toRds HP.out.2.1.toRds)
            clear HP
            have csm := HS.out.smp.cell
            go_wp2_with fail
            refine (orderT (s := (⟨r.time, V0, V1, V2, AU, us, cU⟩ : Sp)) HKK.out HO.out HS.out HU.out HQ.out.tb (by omega) HTB.out).mono ?_; rintro e w5 ⟨Ao, co, rfl, hown, hb⟩
            have HQ := Lib.hid (HQ.out.below hb)
            have HS := Lib.hid (HS.out.below hb)
            have HR2 := Lib.hid (And.intro (HR2.out.1.below hb) (HR2.out.2.below hb))
            have HRO := Lib.hid hown.toRds
            clear hb hown csm
            have csm := HS.out.smp.cell
            go_wp2_with fail
            refine (orderT (s := (⟨r.time, V0, V1, V2, AU, us, cU⟩ : Sp)) HKK.out HB2.out HS.out HU.out HR2.out.1 (by omega) HTBB.out).mono ?_; rintro e w6 ⟨Ap, cp, rfl, hown, hb⟩
            have HQ := Lib.hid (HQ.out.below hb)
            have HS := Lib.hid (HS.out.below hb)
            have HR2 := Lib.hid (And.intro (HR2.out.1.below hb) (HR2.out.2.below hb))
            have HRO := Lib.hid (HRO.out.below hb)
            have HRP := Lib.hid hown.toRds
            clear hb hown csm
            go_wp2_with fail
            refine (sameY rfl HRO.out HRP.out (by omega)).mono ?_; rintro e w7 ⟨rfl, hb⟩
            have HQ := Lib.hid (HQ.out.below hb)
            have HS := Lib.hid (HS.out.below hb)
            have HR2 := Lib.hid (HR2.out.2.below hb)
            have HRO := Lib.hid (HRO.out.below hb)
            clear hb
            have csm := HS.out.smp.cell
            go_wp2_with fail
            refine (orderT (s := (⟨r.time, V0, V1, V2, AU, us, cU⟩ : Sp)) HKK.out HS2.out HS.out HU.out HR2.out (by omega) HTBS.out).mono ?_; rintro e w8 ⟨Aq, cq, rfl, hown, hb⟩
            have HQ := Lib.hid (HQ.out.below hb)
            have HRO := Lib.hid (HRO.out.below hb)
            have HRP := Lib.hid hown.toRds
            clear hb hown csm
            go_wp2_with fail
            refine (sameY rfl HRO.out HRP.out (by omega)).mono ?_; rintro e w9 ⟨rfl, hb⟩
            have HQ := Lib.hid (HQ.out.below hb)
            clear hb
            go_wp2_with fail
            go_ret
            exact ⟨rfl, HQ.out.bel⟩
end Go.Proofs.Ytlnpmdchhmbblaa
