/- The reference's Collect. -/
import Derived.Test.YtfaklhdafpbkmaaCollect
namespace Go.Proofs.Ytfaklhdafpbkmaa
open Go.RowKit

set_option maxRecDepth 100000 in
set_option maxHeartbeats 4000000 in
theorem refCollect_any (l : List Im) (pods : List ByteArray) (need : Int) (well : List Bool) (A B C : Option Addr) (c d f0 : Nat) (w : World) (hr : Rds w encI A l) (hs : Rds w encS B pods) (hw : Rds w encBo C well) (hl : l.length ≤ 100000) (hm : pods.length ≤ 9223372036854775807) (hq : well.length ≤ 9223372036854775807) (hwf : ∀ x ∈ l, I64 x.size) (hneed : I64 need) (hn : (l.map Im.name).Nodup) :
    Calls Try.prog 32 #[.slice A l.length c, .slice B pods.length d, .int .i64 need, .slice C well.length f0] w (GivesCol (orderOf l pods) well need w) := by
  have HR := Lib.hid hr
  have HS := Lib.hid hs
  have HV := Lib.hid hw
  have HWF := Lib.hid hwf
  obtain ⟨hn1, hn2⟩ := hneed
  clear hr hs hw hwf
  go_enter Try.func32, Try.ntmps32
  go_wp2_with fail
  skip
  go_wp2_with fail
  skip
  go_wp2_with fail
  obtain ⟨o, ho⟩ : ∃ o, o = orderOf l pods := ⟨_, rfl⟩
  have hro := refOrder_any l pods A B c d w HR.out HS.out hl hm hn
  rw [← ho] at hro
  refine hro.mono ?_; rintro e w1 ⟨A', c', rfl, hO, hB⟩
  clear hro hn
  have hol : o.length ≤ 100000 := by rw [ho]; have := orderOf_len l pods; omega
  have hoI : ∀ x ∈ o, I64 x.size := fun x hx => HWF.out x (orderOf_mem (by rw [← ho]; exact hx))
  have HOI := Lib.hid hoI
  have HOE := Lib.hid ho
  have HOR := Lib.hid (And.intro hO hB)
  clear hO hB hoI ho
  go_wp2_with fail
  go_loopw [12, 13, 14] (fun g f a wr => ∃ (k : Nat) (G : List ByteArray) (F : Int) (A2 : Option Addr) (c2 : Nat), k ≤ o.length ∧ (G, F) = colG o well k ∧ g = .slice A2 G.length c2 ∧ f = .int .i64 F ∧ a = .int .i64 k ∧ (∀ i, i < k → (colG o well i).2 < need) ∧ Own wr w1.heap.size 9 encS (.slice A2 G.length c2) G ∧ Below w1.heap.size w1 wr) (fun _ _ a _ => o.length - (intOf a).toNat)
  case atStart => exact ⟨0, [], 0, none, 0, by omega, rfl, rfl, rfl, rfl, (fun i hi => by omega), Own.nil_ _ _ _ _, Below.refl _ _⟩
  case round =>
    obtain ⟨k, G, F, A2, c2, hk, hg', rfl, rfl, rfl, hrun, hO2, hB2⟩ := hrel
    have HB := Lib.hid (And.intro hO2 (And.intro hB2 hrun))
    have HG := Lib.hid hg'
    have hgl : G.length ≤ 100000 := by have := colG_len o well k; rw [← hg'] at this; simp only at this; omega
    have hFI := colG_I64 well HOI.out k
    rw [← hg'] at hFI
    simp only at hFI
    have hF2 : (colG o well k).2 = F := by rw [← hg']
    have HF2 := Lib.hid hF2
    clear hO2 hB2 hrun hg' hF2
    by_cases hlt : k < o.length
    · have dk : decide ((k : Int) < (o.length : Int)) = true := decide_eq_true (by omega)
      have dk2 : (k : Int) < (o.length : Int) := by omega
      obtain ⟨b, off, hA', hb1, hd0, hd1, hd2⟩ := HOR.out.1.toRds.im hlt
      subst hA'
      have hc0 := (HB.out.2.1.cell (p := ⟨b, off + k * 3, none⟩) hb1).trans hd0
      have hc1 := (HB.out.2.1.cell (p := ⟨b, off + k * 3 + 1, none⟩) hb1).trans hd1
      have hc2 := (HB.out.2.1.cell (p := ⟨b, off + k * 3 + 2, none⟩) hb1).trans hd2
      have hxI := HOI.out _ (List.getElem_mem hlt)
      have hx0 := List.getElem?_eq_getElem hlt
      generalize o[k] = x at *
      have HX := Lib.hid hx0
      have HBB : Hid (b < w1.heap.size) := hb1
      have HC1 : Hid (w1.cell? ⟨b, off + k * 3 + 1, none⟩ = some (.int .i64 x.size)) := hd1
      have HW := Lib.hid (And.intro (show Own wr w1.heap.size 9 encS (.slice A2 G.length c2) G from HB.out.1) (show Below w1.heap.size w1 wr from HB.out.2.1))
      clear hx0
      clear hd0 hd1 hd2
      obtain ⟨hF1, hF3⟩ := hFI
      have hFI : I64 F := ⟨hF1, hF3⟩
      by_cases hnd : need ≤ F
      · have dn : decide (F < need) = false := decide_eq_false (by omega)
        have HST : Hid (Stops o well need k) := ⟨hk, HB.out.2.2, Or.inr (by rw [HF2.out]; exact hnd)⟩
        clear hnd
        go_wp2_with fail
        (try rw [Exit.noGoto_ret])
        go_ret3
        exact GivesCol.mk' HOE.out HST.out HG.out rfl (HW.out.1.mono HOR.out.2.size) (HOR.out.2.trans (HW.out.2.mono HOR.out.2.size))
      · have dn : decide (F < need) = true := decide_eq_true (by omega)
        have HRUN : Hid (∀ i, i < k + 1 → (colG o well i).2 < need) := fun i hi => by
          by_cases hik : i = k
          · subst hik; rw [HF2.out]; omega
          · exact HB.out.2.2 i (by omega)
        clear hnd
        by_cases hkw : k < well.length
        · obtain ⟨b2, off2, hCe, hb2, hw0⟩ := ((HV.out.below HOR.out.2).below HW.out.2).bo hkw
          subst hCe
          have dw : decide ((well.length : Int) ≤ (k : Int)) = false := decide_eq_false (by omega)
          have dw2 : (k : Int) < (well.length : Int) := by omega
          have hok : okW well k = well[k] := by unfold okW; rw [List.getElem?_eq_getElem hkw]
          cases hwk : well[k]
          · rw [hwk] at hw0 hok
            have HOK := Lib.hid hok
            have HN := Lib.hid (col_no HG.out HX.out HOK.out)
            clear hok hwk
            go_wp2_with fail
            go_roundw
            case rel => exact ⟨k + 1, G, F, A2, c2, by omega, HN.out, rfl, rfl, by go_num, HRUN.out, HW.out.1, HW.out.2⟩
            case measure => simp [intOf]; omega
          · rw [hwk] at hw0 hok
            have HOK := Lib.hid hok
            clear hok hwk
            have HY := Lib.hid (col_yes HG.out HX.out HOK.out)
            have hrm := Rds.made wr encS [x.name] 9 #[.string x.name] (0, 0) rfl
            have hz1 : wr.heap.size = wr.heap.size := by first | rfl | simp
            rw [hz1] at hrm
            have HO1 := Lib.hid (And.intro (HW.out.1.alloc (.cells #[.string x.name] 9)) (And.intro (HW.out.2.alloc HW.out.2.size (.cells #[.string x.name] 9)) hrm))
            clear hrm hz1
            go_wp2_with (at_builtin; refine wl_app elemS encS rfl (.tmp 37) (.tmp 43) rfl w1.heap.size _ G rfl HO1.out.1 _ [x.name] 1 rfl HO1.out.2.2 (by simp; omega) (by simp; omega) HO1.out.2.1.size ?_; intro A3 k3 w3 hown3 hgrow3 _; have hbel3 := HO1.out.1.belowGrown HO1.out.2.1 hgrow3 (Nat.le_refl _) HO1.out.2.1.size; have k3a := (hbel3.cell (p := ⟨b, off + k * 3 + 1, none⟩) HBB.out).trans HC1.out; have HX3 := Lib.hid (And.intro hown3 hbel3); clear hown3 hgrow3 hbel3)
            refine (refAdd_any F x.size _ hFI hxI).mono ?_; rintro e w4 ⟨rfl, rfl⟩
            have hl1 : G.length + [x.name].length = (G ++ [x.name]).length := (List.length_append).symm
            have hx3 := HX3.out.1
            rw [hl1] at hx3
            go_wp2_with fail
            go_roundw
            case rel => exact ⟨k + 1, G ++ [x.name], satAdd F x.size, A3, k3, by omega, HY.out, by first | rfl | (rw [← hl1]; rfl), rfl, by go_num, HRUN.out, hx3, HX3.out.2⟩
            case measure => simp [intOf]; omega
        · have dw : decide ((well.length : Int) ≤ (k : Int)) = true := decide_eq_true (by omega)
          have HOK : Hid (okW well k = true) := by show _ = _; unfold okW; rw [List.getElem?_eq_none (by omega)]
          have HY := Lib.hid (col_yes HG.out HX.out HOK.out)
          have hrm := Rds.made wr encS [x.name] 9 #[.string x.name] (0, 0) rfl
          have hz1 : wr.heap.size = wr.heap.size := by first | rfl | simp
          rw [hz1] at hrm
          have HO1 := Lib.hid (And.intro (HW.out.1.alloc (.cells #[.string x.name] 9)) (And.intro (HW.out.2.alloc HW.out.2.size (.cells #[.string x.name] 9)) hrm))
          clear hrm hz1
          go_wp2_with (at_builtin; refine wl_app elemS encS rfl (.tmp 37) (.tmp 43) rfl w1.heap.size _ G rfl HO1.out.1 _ [x.name] 1 rfl HO1.out.2.2 (by simp; omega) (by simp; omega) HO1.out.2.1.size ?_; intro A3 k3 w3 hown3 hgrow3 _; have hbel3 := HO1.out.1.belowGrown HO1.out.2.1 hgrow3 (Nat.le_refl _) HO1.out.2.1.size; have k3a := (hbel3.cell (p := ⟨b, off + k * 3 + 1, none⟩) HBB.out).trans HC1.out; have HX3 := Lib.hid (And.intro hown3 hbel3); clear hown3 hgrow3 hbel3)
          refine (refAdd_any F x.size _ hFI hxI).mono ?_; rintro e w4 ⟨rfl, rfl⟩
          have hl1 : G.length + [x.name].length = (G ++ [x.name]).length := (List.length_append).symm
          have hx3 := HX3.out.1
          rw [hl1] at hx3
          go_wp2_with fail
          go_roundw
          case rel => exact ⟨k + 1, G ++ [x.name], satAdd F x.size, A3, k3, by omega, HY.out, by first | rfl | (rw [← hl1]; rfl), rfl, by go_num, HRUN.out, hx3, HX3.out.2⟩
          case measure => simp [intOf]; omega
    · obtain rfl : k = o.length := by omega
      have dk : decide ((o.length : Int) < (o.length : Int)) = false := by simp
      have HST : Hid (Stops o well need o.length) := ⟨hk, HB.out.2.2, Or.inl rfl⟩
      go_wp2_with fail
      (try rw [Exit.noGoto_ret])
      go_ret3
      exact GivesCol.mk' HOE.out HST.out HG.out rfl (HB.out.1.mono HOR.out.2.size) (HOR.out.2.trans (HB.out.2.1.mono HOR.out.2.size))
end Go.Proofs.Ytfaklhdafpbkmaa
