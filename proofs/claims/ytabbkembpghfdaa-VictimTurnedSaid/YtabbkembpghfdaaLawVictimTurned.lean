/- bilgelaw21.VictimTurned: the order of the list doesn't matter. -/
import Derived.Test.YtabbkembpghfdaaLawVictimNobody
import Derived.Test.YtabbkembpghfdaaVWho
namespace Go.Proofs.Ytabbkembpghfdaa
open Go.RowKit

theorem dropRevP {l : List Pd} {k : Nat} (hk : k < l.length) : (l.drop k).reverse = (l.drop (k + 1)).reverse ++ [l[k]] := by rw [List.drop_eq_getElem_cons hk, List.reverse_cons]
set_option maxRecDepth 100000 in
set_option maxHeartbeats 16000000 in
theorem victimTurned_any (room : S3) (l : List Pd) (p : Pd) (at_ : Int) (hat : 0 ≤ at_ ∧ at_ ≤ 255) (Al : Option Addr) (cl : Nat) (w : World) (hr : Rds w encP Al l) (hw : ∀ x ∈ l, x.Wf) (hlc : l.length ≤ cl) (hcm : cl ≤ 9223372036854775807) (hm : l.length ≤ 9223372036854775807) (hp : p.Wf) :
    Calls Try.prog 8 #[.agg #[.int .i64 room.a, .int .i64 room.b, .int .i64 room.c], .slice Al l.length cl, .agg p.cells, .int .u8 at_] w fun e w' => e = .returned (.bool true) ∧ Below w.heap.size w w' := by
  have mixed : Try.prog.follows Departure.mixedOrders = true := by kernel_rfl
  have HQ := Lib.hid (CQ.new room p w)
  have HR := Lib.hid hr
  have HW := Lib.hid hw
  have HPW := Lib.hid hp
  clear hr hw hp
  go_enter Try.func8, Try.ntmps8
  go_wp2_with fail
  refine (awake21_any _).mono ?_; rintro e w1 ⟨rfl, hb⟩
  have HQ := Lib.hid (HQ.out.below hb)
  clear hb
  have crm := HQ.out.rm.cell
  have cp := HQ.out.pb.cell
  by_cases hf : FitV room l p
  rotate_left
  · go_wp2_with fail
    refine (refFitV_any (v := false) (room := room) (p := p) (by simp [hf]) Al cl _ (HR.out.below HQ.out.bel) HW.out HPW.out hm).mono ?_; rintro e w2 ⟨rfl, hb⟩
    have HQ := Lib.hid (HQ.out.below hb)
    clear hb crm cp hf
    go_wp2_with fail
    refine (awake21_any _).mono ?_; rintro e w3 ⟨rfl, hb⟩
    have HQ := Lib.hid (HQ.out.below hb)
    clear hb
    go_wp2_with fail
    go_ret
    exact ⟨rfl, HQ.out.bel⟩
  · have HF := Lib.hid hf
    go_wp2_with fail
    refine (refFitV_any (v := true) (room := room) (p := p) (by simp [hf]) Al cl _ (HR.out.below HQ.out.bel) HW.out HPW.out hm).mono ?_; rintro e w1 ⟨rfl, hb⟩
    have HQ := Lib.hid (HQ.out.below hb)
    have HRL := Lib.hid (HR.out.below HQ.out.bel)
    have hl := hf.len
    clear hb crm cp hf
    have HFI := Lib.hid HF.out.inj
    have hwz : IntKind.i64.wrap ((l.length : Int) - 1) = (l.length : Int) - 1 := by rw [IntKind.wrap_i64]; omega
    go_wp2_with fail
    go_loopw [9, 10] (fun bk ii wr => ∃ (j : Nat) (B : List Pd) (A : Option Addr) (c : Nat) (z : Int), j ≤ l.length ∧ ii = .int .i64 z ∧ z + 1 = (j : Int) ∧ B = (l.drop j).reverse ∧ bk = .slice A B.length c ∧ Own wr w1.heap.size 25 encP (.slice A B.length c) B ∧ Below w1.heap.size w1 wr) (fun _ ii _ => (intOf ii + 1).toNat)
    case atStart => exact ⟨l.length, [], none, 0, (l.length : Int) - 1, by omega, rfl, by omega, by simp, rfl, Own.nil_ _ _ _ _, Below.refl _ _⟩
    case round =>
      clear hwz
      obtain ⟨j, B, A1, c1, z, hj, rfl, hz, hB, rfl, ho, hbl⟩ := hrel
      have hBl : B.length ≤ 64 := by rw [hB, List.length_reverse, List.length_drop]; omega
      have HBS := Lib.hid hB
      have HP := Lib.hid (And.intro ho hbl)
      clear hB ho hbl
      by_cases h0 : 0 < j
      · obtain ⟨i, hi⟩ : ∃ i, j = i + 1 := ⟨j - 1, by omega⟩
        subst hi
        obtain rfl : z = (i : Int) := by omega
        clear hz h0
        have hil : i < l.length := by omega
        have dz : decide ((0 : Int) ≤ (i : Int)) = true := decide_eq_true (by omega)
        have di2 : (i : Int) < (l.length : Int) := by omega
        have hwi : IntKind.i64.wrap ((i : Int) - 1) = (i : Int) - 1 := by rw [IntKind.wrap_i64]; omega
        obtain ⟨b, off, hA⟩ := HR.out.some_ hil
        obtain rfl : Al = some ⟨b, off, none⟩ := hA
        have HXI := Lib.hid (List.getElem?_eq_getElem hil)
        have HBN := Lib.hid (show (l.drop i).reverse = B ++ [l[i]] by rw [dropRevP hil, HBS.out])
        generalize l[i] = x at *
        obtain ⟨x0, x1, x2, x3, x4, x5, x6, x7, x8, x9, x10⟩ := HRL.out.pdAt HP.out.2 HXI.out
        clear HBS
        go_wp2_with (at_builtin; refine wl_push elemP encP rfl (.tmp 36) (.tmp 41) rfl x #[.string x.id, .int .i64 x.prio, .bool x.crit, .int .i64 x.q0, .int .i64 x.q1, .int .i64 x.q2, .int .i64 x.l0, .int .i64 x.l1, .int .i64 x.l2, .string x.image, .int .i64 x.size] rfl w1.heap.size _ B rfl HP.out.1 rfl rfl HP.out.2 (by omega) (by omega) HP.out.2.size ?_; intro A3 k3 w3 ho hb _; have HX3 := Lib.hid (And.intro ho hb); clear ho hb)
        go_roundw
        case rel => exact ⟨i, B ++ [x], A3, k3, (i : Int) - 1, by omega, rfl, by omega, HBN.out.symm, by simp, own_len1 HX3.out.1, HX3.out.2⟩
        case measure => first | (simp [intOf]; done) | (simp [intOf]; omega)
      · obtain rfl : j = 0 := by omega
        obtain rfl : z = -1 := by omega
        have dz : decide ((0 : Int) ≤ -1) = false := rfl
        rw [List.drop_zero] at HBS
        clear hz h0
        obtain ⟨k, hk⟩ : ∃ k : Nat, at_.tmod ((l.length : Int) + 1) = (k : Int) := ⟨(at_.tmod ((l.length : Int) + 1)).toNat, by
          have : 0 ≤ at_.tmod ((l.length : Int) + 1) := Int.tmod_nonneg _ hat.1
          omega⟩
        have hkl : k ≤ l.length := by
          have := Int.tmod_lt_of_pos at_ (show (0 : Int) < (l.length : Int) + 1 by omega)
          omega
        have hkl2 : (k : Int) ≤ (l.length : Int) := by omega
        have hwa : IntKind.i64.wrap at_ = at_ := by rw [IntKind.wrap_i64]; omega
        have hwl : IntKind.i64.wrap ((l.length : Int) + 1) = (l.length : Int) + 1 := by rw [IntKind.wrap_i64]; omega
        have hwk : IntKind.i64.wrap (k : Int) = (k : Int) := by rw [IntKind.wrap_i64]; omega
        go_wp2_with fail
        have hHB : Below wr.heap.size wr wr := Below.refl _ _
        have HBr := Lib.hid hHB
        have hlk : ((l.length - k : Nat) : Int) = (l.length : Int) - k := by omega
        have hck : ((cl - k : Nat) : Int) = (cl : Int) - k := by omega
        have hkc : (k : Int) ≤ (cl : Int) := by omega
        have hlc2 : (l.length : Int) ≤ (cl : Int) := by omega
        clear hHB
        have hkm : min k l.length = k := by omega
        have HRd := Lib.hid (HRL.out.below HP.out.2).drew
        go_cut [12] (fun v W => ∃ A7 c7, v = .slice A7 (l.drop k ++ l.take k).length c7 ∧ Own W wr.heap.size 25 encP (.slice A7 (l.drop k ++ l.take k).length c7) (l.drop k ++ l.take k) ∧ Below wr.heap.size wr W)
        case first =>
          have hbd : Below wr.heap.size wr wr.drew := (Below.refl _ _).drew
          have HBd := Lib.hid hbd
          clear hbd
          refine wp_region_held_drew (S := fun _ => True) (by kernel_rfl) trivial (fun hHeld => ?_)
          generalize wr.drew = wd at *
          obtain ⟨AK, hAK⟩ : ∃ AK, (if cl = k then Al else Al.map (·.add (k * 11))) = AK := ⟨_, rfl⟩
          have HRK : Hid (Rds wd encP AK (l.drop k)) := hAK ▸ HRd.out.drop k cl hlc
          refine held_take 1 50 (.slice Al l.length cl) rfl rfl (by kernel_rfl) (by kernel_rfl) (by kernel_rfl) (fun _ _ _ h => h) (by rfl) (by intro w' hSw; (try dsimp only at hSw); go_simp; (try (with_reducible rfl))) (by assumption) ?_
          simp only [Act.put, List.setIfInBounds_toArray, List.set_cons_zero, List.set_cons_succ]
          refine held_take 2 51 (.int .i64 k) rfl rfl (by kernel_rfl) (by kernel_rfl) (by kernel_rfl) (fun _ _ _ h => h) (by rfl) (by intro w' hSw; (try dsimp only at hSw); go_simp; (try (with_reducible rfl))) (by assumption) ?_
          simp only [Act.put, List.setIfInBounds_toArray, List.set_cons_zero, List.set_cons_succ]
          refine held_take 3 52 (.slice AK (l.length - k) (cl - k)) rfl rfl (by kernel_rfl) (by kernel_rfl) (by kernel_rfl) (fun _ _ _ h => h) (by rfl) (by intro w' hSw; (try dsimp only at hSw); go_simp; (first | done | with_reducible rfl | (rw [hAK]))) (by assumption) ?_
          simp only [Act.put, List.setIfInBounds_toArray, List.set_cons_zero, List.set_cons_succ]
          clear hAK
          refine held_take 5 54 (.slice Al l.length cl) rfl rfl (by kernel_rfl) (by kernel_rfl) (by kernel_rfl) (fun _ _ _ h => h) (by rfl) (by intro w' hSw; (try dsimp only at hSw); go_simp; (try (with_reducible rfl))) (by assumption) ?_
          simp only [Act.put, List.setIfInBounds_toArray, List.set_cons_zero, List.set_cons_succ]
          refine held_take 6 55 (.int .i64 k) rfl rfl (by kernel_rfl) (by kernel_rfl) (by kernel_rfl) (fun _ _ _ h => h) (by rfl) (by intro w' hSw; (try dsimp only at hSw); go_simp; (try (with_reducible rfl))) (by assumption) ?_
          simp only [Act.put, List.setIfInBounds_toArray, List.set_cons_zero, List.set_cons_succ]
          refine held_take 7 56 (.slice Al k cl) rfl rfl (by kernel_rfl) (by kernel_rfl) (by kernel_rfl) (fun _ _ _ h => h) (by rfl) (by intro w' hSw; (try dsimp only at hSw); go_simp; (try (with_reducible rfl))) (by assumption) ?_
          simp only [Act.put, List.setIfInBounds_toArray, List.set_cons_zero, List.set_cons_succ]
          have hb0 : Below wd.heap.size wd wd := Below.refl _ _
          have HB := Lib.hid hb0
          clear hb0
          refine held_call 0 49 rfl rfl (by kernel_rfl) (by rfl) (fun K hK => ?_)
          go_simp
          have how := Own.made wd wd.heap.size 25 encP [] #[] rfl (Nat.le_refl _) (by simp)
          have HOW := Lib.hid how
          clear how
          have HB := Lib.hid (HB.out.alloc (Nat.le_refl _) (.cells #[] 25))
          refine hK _ _ trivial ?_
          have hHeld := True.intro
          clear hK K
          simp only [Act.put, List.setIfInBounds_toArray, List.set_cons_zero, List.set_cons_succ]
          refine held_call 4 53 rfl rfl (by kernel_rfl) (by rfl) (fun K hK => ?_)
          refine wp_app (wd.alloc (.cells #[] 25)) elemP encP (.tmp 49) (.tmp 52) rfl wd.heap.size _ [] (by simp [Act.eval]) HOW.out AK (l.drop k) (cl - k) (by simp [Act.eval]) (HRK.out.below (HB.out.mono (Nat.le_refl _))) (by simp; omega) (by simp; omega) HB.out.size ?_
          intro A5 c5 w5 ho hg _
          have hb5 := HOW.out.belowGrown HB.out hg (Nat.le_refl _) HB.out.size
          have how : Own w5 wd.heap.size 25 encP (.slice A5 (l.drop k).length c5) (l.drop k) := by simpa using ho
          have HOW := Lib.hid how
          have HB := Lib.hid hb5
          clear ho how hg hb5
          simp only [List.length_nil, Nat.zero_add]
          refine hK _ _ trivial ?_
          have hHeld := True.intro
          clear hK K
          simp only [Act.put, List.setIfInBounds_toArray, List.set_cons_zero, List.set_cons_succ]
          refine held_call 8 57 rfl rfl (by kernel_rfl) (by rfl) (fun K hK => ?_)
          refine wp_app w5 elemP encP (.tmp 53) (.tmp 56) rfl wd.heap.size _ (l.drop k) (by simp [Act.eval]) HOW.out Al (l.take k) cl (by simp [Act.eval, hkm]) ((HRd.out.take k).below (HB.out.mono (Nat.le_refl _))) (by simp; omega) (by simp; omega) HB.out.size ?_
          intro A7 c7 w7 ho hg _
          have hb7 := HOW.out.belowGrown HB.out hg (Nat.le_refl _) HB.out.size
          have HOW := Lib.hid ho
          have HB := Lib.hid hb7
          clear ho hg hb7
          refine hK _ _ trivial ?_
          have hHeld := True.intro
          clear hK K
          simp only [Act.put, List.setIfInBounds_toArray, List.set_cons_zero, List.set_cons_succ]
          refine held_take 9 12 (.slice A7 ((l.drop k).length + (l.take k).length) c7) rfl rfl (by kernel_rfl) (by kernel_rfl) (by kernel_rfl) (fun _ _ _ h => h) (by rfl) (by intro w' hSw; (try dsimp only at hSw); go_simp; (try (with_reducible rfl))) (by assumption) ?_
          simp only [Act.put, List.setIfInBounds_toArray, List.set_cons_zero, List.set_cons_succ]
          refine wpAnyH_done (by kernel_rfl) ?_ _
          go_wp2_with fail
          go_meet
          exact ⟨A7, c7, by simp, by have h := HOW.out.mono HBd.out.size; simpa [List.length_append] using h, below_rV HBd.out HB.out⟩
        case rest =>
          obtain ⟨A7, c7, rfl, ho7, hb7⟩ := hcut
          have HB7 := Lib.hid (HP.out.2.trans (hb7.mono HP.out.2.size))
          have HPMB := Lib.hid (show l.Perm B by rw [HBS.out]; exact (List.reverse_perm l).symm)
          have HPMC := Lib.hid (show l.Perm (l.drop k ++ l.take k) from by
            have h := (List.perm_append_comm (l₁ := l.take k) (l₂ := l.drop k))
            rw [List.take_append_drop] at h
            exact h)
          have HQ := Lib.hid (HQ.out.below HB7.out)
          have HRL := Lib.hid (HRL.out.below HB7.out)
          have HRB := Lib.hid (HP.out.1.below hb7 (Nat.le_refl _)).toRds
          have HRC := Lib.hid ho7.toRds
          have hCl : (l.drop k ++ l.take k).length ≤ 64 := by rw [← HPMC.out.length_eq]; omega
          have HWB := Lib.hid (show ∀ x ∈ B, x.Wf from fun x hx => HW.out x (HPMB.out.symm.subset hx))
          have HWC := Lib.hid (show ∀ x ∈ l.drop k ++ l.take k, x.Wf from fun x hx => HW.out x (HPMC.out.symm.subset hx))
          clear ho7 hb7 HB7 HP HBS HBr hlk hck hkc hlc2 hkm
          generalize l.drop k ++ l.take k = C at *
          have crm := HQ.out.rm.cell
          have cp := HQ.out.pb.cell
          go_wp2_with fail
          refine (chooseW (room := room) (p := p) Al cl _ HRL.out (by omega) HW.out HPW.out).mono ?_; rintro e w2 ⟨O, bb, Ax, cx, rfl, hwho, ho, hb⟩
          have HWH := Lib.hid hwho
          have hOl := hwho.len
          have HQ := Lib.hid (HQ.out.below hb)
          have HRX := Lib.hid ho.toRds
          have HRB := Lib.hid (HRB.out.below hb)
          have HRC := Lib.hid (HRC.out.below hb)
          clear hwho ho hb crm cp
          have crm := HQ.out.rm.cell
          have cp := HQ.out.pb.cell
          go_wp2_with fail
          refine (chooseW2 HFI.out HPMB.out HWH.out A1 c1 _ HRB.out (by omega) HWB.out HPW.out).mono ?_; rintro e w3 ⟨Ay, cy, rfl, ho, hb⟩
          have HQ := Lib.hid (HQ.out.below hb)
          have HRX := Lib.hid (HRX.out.below hb)
          have HRY := Lib.hid ho.toRds
          have HRC := Lib.hid (HRC.out.below hb)
          clear ho hb crm cp
          have crm := HQ.out.rm.cell
          have cp := HQ.out.pb.cell
          go_wp2_with fail
          refine (chooseW2 HFI.out HPMC.out HWH.out A7 c7 _ HRC.out (by omega) HWC.out HPW.out).mono ?_; rintro e w4 ⟨Az, cz, rfl, ho, hb⟩
          have HQ := Lib.hid (HQ.out.below hb)
          have HRX := Lib.hid (HRX.out.below hb)
          have HRY := Lib.hid (HRY.out.below hb)
          have HRZ := Lib.hid ho.toRds
          clear ho hb crm cp HRB HRC
          have deq : (bb == bb) = true := by simp
          go_wp2_with fail
          refine (sameTexts_b O O Ax Ay cx cy _ HRX.out HRY.out (by omega) (by omega)).mono ?_; rintro e w5 ⟨rfl, hb⟩
          have HQ := Lib.hid (HQ.out.below hb)
          have HRX := Lib.hid (HRX.out.below hb)
          have HRZ := Lib.hid (HRZ.out.below hb)
          clear hb
          have doo : decide (O = O) = true := by simp
          go_wp2_with fail
          refine (sameTexts_b O O Ax Az cx cz _ HRX.out HRZ.out (by omega) (by omega)).mono ?_; rintro e w6 ⟨rfl, hb⟩
          have HQ := Lib.hid (HQ.out.below hb)
          clear hb
          go_wp2_with fail
          go_ret
          exact ⟨by simp, HQ.out.bel⟩
end Go.Proofs.Ytabbkembpghfdaa
