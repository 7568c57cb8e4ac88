/- Several texts in one: The reference's Put gives Pd.bytes, too. Rows in general: arguments read anew behind a call that left what was there; slices opened; the post of a law that returned true. Pods, rows of pods and three numbers among the arguments of a row. -/
import Derived.Deep.RegionLaw
import Derived.Deep.DeepCutAuto
import Derived.ChangeStays
import Derived.ReadAgain
import Derived.WalkKit
import Derived.ProofKit
import Derived.OpenShut
import Derived.WideShapes
import Derived.ChangeArms
import Derived.ChangeMaps5
import Derived.Deep.DeepHandedRow
import Derived.Deep.DeepWitnessRowRef
import Derived.Laws.IdiomArrays
import Derived.Test.YtakgblgbfbpmoaaDoorML
import Derived.Test.YtakgblgbfbpmoaaDoorMB
import Derived.Test.YtakgblgbfbpmoaaDoorMA
import Derived.Test.YtakgblgbfbpmoaaDoorProg
namespace Go.Proofs.YtakgblgbfbpmoaaDoor
open Go.RowKit

/-- what stays of a pod's box while a call goes on -/
def PS (p : Pd) (w W : World) : Prop := Blk W w.heap.size 44 p.cells ∧ Below w.heap.size w W
theorem PS.alloc {p : Pd} {w W : World} (h : PS p w W) (o : Obj) : PS p w (W.alloc o) := ⟨h.1.alloc o, h.2.alloc h.2.size o⟩
theorem PS.drew {p : Pd} {w W : World} (h : PS p w W) : PS p w W.drew := ⟨h.1.drew, h.2.drew⟩
theorem PS.below {p : Pd} {w W W' : World} (h : PS p w W) (hb : Below W.heap.size W W') : PS p w W' := ⟨h.1.belowAll hb, h.2.trans (hb.mono h.2.size)⟩
theorem PS.grown {p : Pd} {w W W' : World} (h : PS p w W) {v : Value} {l : List UInt8} (ho : Own W w.heap.size 5 encB v l) (hg : W.grownBy W' v.ownBlock) : PS p w W' :=
  ⟨h.1.grown hg (ho.ne_blk h.1 (by decide)), ho.belowGrown h.2 hg (Nat.le_refl _) h.2.size⟩
theorem PS.start (p : Pd) (w : World) : PS p w (w.alloc (.cells p.cells 44)) := ⟨Blk.new _ _ _, (Below.refl _ _).alloc (Nat.le_refl _) _⟩

theorem PS.size {p : Pd} {w W : World} (h : PS p w W) : w.heap.size ≤ W.heap.size := h.2.size
theorem PS.c {p : Pd} {w W : World} (h : PS p w W) (i : Nat) {v : Value} (hv : p.cells[i]? = some v) : W.cell? ⟨w.heap.size, i, none⟩ = some v := (h.1.cell i).trans hv

theorem Pd.cell_nm (p : Pd) (k lo : Nat) (h : lo = 2 ∨ lo = 5) (hk : k < 3) : p.cells[lo + 1 + k]? = some (.int .i64 (p.nm (lo + k))) := by
  rcases h with rfl | rfl <;> obtain rfl | rfl | rfl : k = 0 ∨ k = 1 ∨ k = 2 := by omega
  all_goals rfl
theorem Pd.nm_I64 (p : Pd) (hp : p.Wf) (k : Nat) (h : 1 ≤ k) : I64 (p.nm k) := by
  rcases k with _ | _ | _ | _ | _ | _ | _ | k
  · omega
  · exact hp.size
  · exact hp.q0
  · exact hp.q1
  · exact hp.q2
  · exact hp.l0
  · exact hp.l1
  · exact hp.l2
theorem Pd.upTo_word (p : Pd) (k : Nat) : p.upTo (k + 1) 0 = p.upTo k 0 ++ word (p.nm k) := by simp [Pd.upTo, Pd.numsTo]

set_option maxHeartbeats 4000000 in
theorem refPut_any (p : Pd) (w : World) (hp : p.Wf) (hr : p.right = true) :
    Calls Tryd.prog 35 #[.agg p.cells] w fun e w' => ∃ A c, e = .returned (.slice A p.bytes.length c) ∧ Own w' w.heap.size 5 encB (.slice A p.bytes.length c) p.bytes ∧ Below w.heap.size w w' := by
  obtain ⟨hs0, hs1⟩ := p.right_named hr
  obtain ⟨hpr1, hpr2, _⟩ := p.right_prio hr
  clear hr
  have d0 := Rdf.made (w.alloc (.cells p.cells 44)) encB [UInt8.ofNat p.id.size] 5 #[.int .u8 p.id.size] (0, 0) (by rw [encB_all, List.map_cons, byte_small _ hs0]; rfl)
  have O0 : Own ((w.alloc (.cells p.cells 44)).alloc (.cells #[.int .u8 p.id.size] 5)) w.heap.size 5 encB (.slice (some ⟨w.heap.size + 1, 0, none⟩) 1 1) [UInt8.ofNat p.id.size] := by
    have := Own.made (w.alloc (.cells p.cells 44)) w.heap.size 5 encB [UInt8.ofNat p.id.size] #[.int .u8 p.id.size] (by rw [encB_all, List.map_cons, byte_small _ hs0]; rfl) (by simp) (by simp)
    simpa using this
  have P0 := (PS.start p w).alloc (.cells #[.int .u8 p.id.size] 5)
  have H := Lib.hid (And.intro O0 P0)
  clear d0 O0 P0
  go_enter Tryd.func35, Tryd.ntmps35
  go_wp2_with (first | (refine wl_conv rfl (.tmp 12) rfl p.id rfl ?_; intro c1 w1 hr1 hb1) | (at_builtin; refine wl_app elemB encB rfl (.tmp 10) (.tmp 13) rfl w.heap.size _ [UInt8.ofNat p.id.size] rfl (H.out.1.below hb1 (by simp)) _ p.id.data.toList c1 rfl hr1.rds (by simp; omega) (by simp; omega) (by have := hb1.size; simp at this; omega) ?_; intro A2 c2 w2 hown2 hgrow2 _))
  have hP2 : PS p w w2 := (H.out.2.below hb1).grown (H.out.1.below hb1 (by simp)) hgrow2
  have hO2 : Own w2 w.heap.size 5 encB (.slice A2 (1 + p.id.size) c2) (textB p.id) := hown2
  have hz2 := hP2.2.size
  clear hown2 hgrow2 hr1 hb1 H
  have hlt2 : ∀ k, (Value.slice A2 (1 + p.id.size) c2).ownBlock = some k → k < w2.heap.size := fun k hk => (hO2.block_lt k hk).2
  have hz2' : w.heap.size < w2.heap.size := hP2.1.lt
  have iw : IntKind.u8.wrap (p.image.size : Int) = p.image.size := by simp [IntKind.wrap, IntKind.bits, IntKind.signed]; omega
  have c9 := hP2.c 9 (v := .string p.image) rfl
  have len2 : (textB p.id).length = 1 + p.id.size := by simp [textB, Nat.add_comm]
  have hdat : [Value.int .u8 (p.image.size : Int)] = encB.all [UInt8.ofNat p.image.size] := by rw [encB_all, List.map_cons, byte_small _ hs1]; rfl
  have HH := Lib.hid (And.intro hP2.drew (And.intro hO2.drew (And.intro hlt2 (And.intro len2 hdat))))
  clear hP2 hO2 hlt2 len2 hdat hz2
  obtain ⟨ca, wa, hva, hra, hba⟩ := conv_bytes w2.drew p.image
  obtain ⟨cb, wb, hvb, hrb, hbb⟩ := conv_bytes (w2.alloc (.cells #[.int .u8 (p.image.size : Int)] 5)).drew p.image
  have eb : (w2.alloc (.cells #[.int .u8 (p.image.size : Int)] 5)).drew.heap.size = w2.heap.size + 1 := by simp
  rw [eb] at hrb
  clear eb
  have hPa : PS p w wa := HH.out.1.below hba
  have hPb : PS p w wb := PS.below (W := (w2.alloc (.cells #[.int .u8 (p.image.size : Int)] 5)).drew) (HH.out.1.alloc _) hbb
  have k9a : wa.cell? ⟨w.heap.size, 9, none⟩ = some (.string p.image) := hPa.c 9 rfl
  have k9b : wb.cell? ⟨w.heap.size, 9, none⟩ = some (.string p.image) := hPb.c 9 rfl
  have hza : w.heap.size < wa.heap.size := hPa.1.lt
  have HA := Lib.hid (And.intro hPa (And.intro hra hba))
  have HB := Lib.hid (And.intro hPb (And.intro hrb hbb))
  clear hPa hra hba hPb hrb hbb
  have HT : Hid (p.textsTo 2 = (textB p.id ++ [UInt8.ofNat p.image.size]) ++ p.image.data.toList) := by show _ = _; simp [Pd.textsTo, textB]
  have HL : Hid ((p.textsTo 2).length = (textB p.id).length + 1 + p.image.size) := by show _ = _; rw [HT.out, List.length_append, List.length_append]; rfl
  go_cut [3] (fun b wx => ∃ A c, b = .slice A (p.textsTo 2).length c ∧ Own wx w.heap.size 5 encB (.slice A (p.textsTo 2).length c) (p.textsTo 2) ∧ PS p w wx)
  case first =>
    go_region_law (first
      | (refine step_app elemB encB rfl (.tmp 15) (.tmp 20) rfl w.heap.size _ (textB p.id) rfl (show Own (w2.alloc (.cells #[.int .u8 (p.image.size : Int)] 5)).drew _ _ encB _ _ from HH.out.2.1.alloc _) _ [UInt8.ofNat p.image.size] 1 rfl (show Rds (w2.alloc (.cells #[.int .u8 (p.image.size : Int)] 5)).drew encB _ _ from Rds.made w2 encB _ _ _ _ HH.out.2.2.2.2) (by rw [HH.out.2.2.2.1]; simp; omega) (by rw [HH.out.2.2.2.1]; simp; omega) (PS.size (show PS p w (w2.alloc (.cells #[.int .u8 (p.image.size : Int)] 5)).drew from HH.out.1.alloc _)) ?_; intro A4 c4 w4 hown4 hgrow4 _; have hP4 := Lib.hid (show PS p w w4 from PS.grown (show PS p w (w2.alloc (.cells #[.int .u8 (p.image.size : Int)] 5)).drew from HH.out.1.alloc _) (show Own (w2.alloc (.cells #[.int .u8 (p.image.size : Int)] 5)).drew _ _ encB _ _ from HH.out.2.1.alloc _) hgrow4); have k9c : w4.cell? ⟨w.heap.size, 9, none⟩ = some (.string p.image) := hP4.out.c 9 rfl; have G1 := Lib.hid hgrow4; clear hgrow4; obtain ⟨cc, wc, hvc, hrc, hbc⟩ := conv_bytes w4 p.image; have HC := Lib.hid (And.intro hrc hbc); clear hrc hbc)
      | (refine step_app elemB encB rfl (.tmp 15) (.tmp 20) rfl w.heap.size _ (textB p.id) rfl (Own.below (show Own (w2.alloc (.cells #[.int .u8 (p.image.size : Int)] 5)).drew _ _ encB _ _ from HH.out.2.1.alloc _) HB.out.2.2 (Nat.le_refl _)) _ [UInt8.ofNat p.image.size] 1 rfl (Rds.below (show Rds (w2.alloc (.cells #[.int .u8 (p.image.size : Int)] 5)).drew encB _ _ from Rds.made w2 encB _ _ _ _ HH.out.2.2.2.2) HB.out.2.2) (by rw [HH.out.2.2.2.1]; simp; omega) (by rw [HH.out.2.2.2.1]; simp; omega) (PS.size (HB.out.1)) ?_; intro A4 c4 w4 hown4 hgrow4 _; have hP4 := Lib.hid (show PS p w w4 from PS.grown (HB.out.1) (Own.below (show Own (w2.alloc (.cells #[.int .u8 (p.image.size : Int)] 5)).drew _ _ encB _ _ from HH.out.2.1.alloc _) HB.out.2.2 (Nat.le_refl _)) hgrow4); have k9c : w4.cell? ⟨w.heap.size, 9, none⟩ = some (.string p.image) := hP4.out.c 9 rfl; have G2 := Lib.hid hgrow4; clear hgrow4)
      | (refine step_app elemB encB rfl (.tmp 15) (.tmp 20) rfl w.heap.size _ (textB p.id) rfl ((HH.out.2.1.below HA.out.2.2 (Nat.le_refl _)).alloc _) _ [UInt8.ofNat p.image.size] 1 rfl (Rds.made wa encB _ _ _ _ HH.out.2.2.2.2) (by rw [HH.out.2.2.2.1]; simp; omega) (by rw [HH.out.2.2.2.1]; simp; omega) (PS.size (HA.out.1.alloc _)) ?_; intro A4 c4 w4 hown4 hgrow4 _; have hP4 := Lib.hid (show PS p w w4 from PS.grown (HA.out.1.alloc _) ((HH.out.2.1.below HA.out.2.2 (Nat.le_refl _)).alloc _) hgrow4); have k9c : w4.cell? ⟨w.heap.size, 9, none⟩ = some (.string p.image) := hP4.out.c 9 rfl; have G3 := Lib.hid hgrow4; clear hgrow4)
      | (refine step_app elemB encB rfl (.tmp 21) (.tmp 24) rfl w.heap.size _ (textB p.id ++ [UInt8.ofNat p.image.size]) rfl (hown4.below HC.out.2 (Nat.le_refl _)) _ p.image.data.toList _ rfl (HC.out.1.rds) (by rw [List.length_append, HH.out.2.2.2.1]; simp; omega) (by rw [List.length_append, HH.out.2.2.2.1]; simp; omega) (PS.size (hP4.out.below HC.out.2)) ?_; intro A5 c5 w5 hown5 hgrow5 _; have hP5 := Lib.hid (show PS p w w5 from PS.grown (hP4.out.below HC.out.2) (hown4.below HC.out.2 (Nat.le_refl _)) hgrow5); clear hgrow5)
      | (refine step_app elemB encB rfl (.tmp 21) (.tmp 24) rfl w.heap.size _ (textB p.id ++ [UInt8.ofNat p.image.size]) rfl (hown4) _ p.image.data.toList _ rfl ((HB.out.2.1.grown G2.out (fun k hk => by have := HH.out.2.2.1 k hk; first | omega | (simp; omega))).rds) (by rw [List.length_append, HH.out.2.2.2.1]; simp; omega) (by rw [List.length_append, HH.out.2.2.2.1]; simp; omega) (PS.size (hP4.out)) ?_; intro A5 c5 w5 hown5 hgrow5 _; have hP5 := Lib.hid (show PS p w w5 from PS.grown (hP4.out) (hown4) hgrow5); clear hgrow5)
      | (refine step_app elemB encB rfl (.tmp 21) (.tmp 24) rfl w.heap.size _ (textB p.id ++ [UInt8.ofNat p.image.size]) rfl (hown4) _ p.image.data.toList _ rfl (((HA.out.2.1.alloc _).grown G3.out (fun k hk => by have := HH.out.2.2.1 k hk; first | omega | (simp; omega))).rds) (by rw [List.length_append, HH.out.2.2.2.1]; simp; omega) (by rw [List.length_append, HH.out.2.2.2.1]; simp; omega) (PS.size (hP4.out)) ?_; intro A5 c5 w5 hown5 hgrow5 _; have hP5 := Lib.hid (show PS p w w5 from PS.grown (hP4.out) (hown4) hgrow5); clear hgrow5))
    all_goals (go_wp2_with fail; go_meet; have h5 := hown5; rw [List.length_append] at h5; exact ⟨A5, c5, by rw [HL.out], by rw [HL.out, HT.out]; exact h5, hP5.out⟩)
  case rest =>
    clear HA HB HH HT HL c9 k9a k9b hva hvb iw hza hz2'
    obtain ⟨A, c, rfl, hown, hP⟩ := hcut
    obtain ⟨wx, rfl⟩ : ∃ wo : World, wo = wc := ⟨_, rfl⟩
    have ht2 := p.textsTo_len 2 (by omega) hs0 hs1
    have hI1 : I64 (p.prio + 1073741824) := by unfold I64; omega
    have hI2 := hp.size
    have hlt2 : ∀ k, (Value.slice A (p.textsTo 2).length c).ownBlock = some k → k < wx.heap.size := fun k hk => (hown.block_lt k hk).2
    have k1 : wx.cell? ⟨w.heap.size, 1, none⟩ = some (.int .i64 p.prio) := hP.c 1 rfl
    have k10 : wx.cell? ⟨w.heap.size, 10, none⟩ = some (.int .i64 p.size) := hP.c 10 rfl
    have HH := Lib.hid (And.intro hP.drew (And.intro hown.drew hlt2))
    have is : IntKind.i64.wrap (p.prio + 1073741824) = p.prio + 1073741824 := IntWalk.i64_in _ (by omega)
    clear hP hown hlt2
    go_wp2_with fail
    have HT : Hid (p.upTo 2 0 = (p.textsTo 2 ++ word (p.prio + 1073741824)) ++ word p.size) := by show _ = _; simp [Pd.upTo, Pd.numsTo, Pd.nm]
    have HW : Hid (∀ n, (word n).length = 8) := by show ∀ n, _; intro n; unfold word; exact wordTo_len _ _
    have HL : Hid ((p.upTo 2 0).length = ((p.textsTo 2).length + (word (p.prio + 1073741824)).length) + (word p.size).length) := by show _ = _; rw [HT.out, List.length_append, List.length_append]
    go_cut [3] (fun b wy => ∃ A c, b = .slice A (p.upTo 2 0).length c ∧ Own wy w.heap.size 5 encB (.slice A (p.upTo 2 0).length c) (p.upTo 2 0) ∧ PS p w wy)
    case first =>
      go_region_law (first
        | (go_simp; go_at_call 49; (with_reducible refine (refWord_any (p.prio + 1073741824) _ hI1).mono ?_); rintro e w3 ⟨A3, c3, rfl, hO3, hb3⟩; have hP3 := Lib.hid (HH.out.1.below hb3); have k10a := hP3.out.c 10 (v := .int .i64 p.size) rfl; have HO3 := Lib.hid (And.intro hO3 hb3); clear hO3 hb3)
        | (go_simp; go_at_call 49; (with_reducible refine (refWord_any p.size _ hI2).mono ?_); rintro e w6 ⟨A6, c6, rfl, hO6, hb6⟩; have HO6 := Lib.hid (And.intro hO6 hb6); clear hO6 hb6)
        | (refine step_app elemB encB rfl (.tmp 26) (.tmp 30) rfl w.heap.size _ (p.textsTo 2) rfl (HH.out.2.1.below HO3.out.2 (Nat.le_refl _)) _ (word (p.prio + 1073741824)) c3 rfl HO3.out.1.toRds (by rw [HW.out]; omega) (by rw [HW.out]; omega) hP3.out.size ?_; intro A4 c4 w4 hown4 hgrow4 _; have hP4 := Lib.hid (hP3.out.grown (HH.out.2.1.below HO3.out.2 (Nat.le_refl _)) hgrow4); have k10b := hP4.out.c 10 (v := .int .i64 p.size) rfl; clear hgrow4; have t1 := trivial)
        | (refine step_app elemB encB rfl (.tmp 26) (.tmp 30) rfl w.heap.size _ (p.textsTo 2) rfl ((HH.out.2.1.below HO3.out.2 (Nat.le_refl _)).below HO6.out.2 (Nat.le_refl _)) _ (word (p.prio + 1073741824)) c3 rfl (HO3.out.1.below HO6.out.2 (Nat.le_refl _)).toRds (by rw [HW.out]; omega) (by rw [HW.out]; omega) (hP3.out.below HO6.out.2).size ?_; intro A4 c4 w4 hown4 hgrow4 _; have hP4 := Lib.hid ((hP3.out.below HO6.out.2).grown ((HH.out.2.1.below HO3.out.2 (Nat.le_refl _)).below HO6.out.2 (Nat.le_refl _)) hgrow4); have k10b := hP4.out.c 10 (v := .int .i64 p.size) rfl; have G4 := Lib.hid hgrow4; clear hgrow4)
        | (refine step_app elemB encB rfl (.tmp 31) (.tmp 34) rfl w.heap.size _ (p.textsTo 2 ++ word (p.prio + 1073741824)) rfl (by first | exact List.length_append ▸ hown4.below HO6.out.2 (Nat.le_refl _)) _ (word p.size) c6 rfl HO6.out.1.toRds (by rw [List.length_append, HW.out, HW.out]; omega) (by rw [List.length_append, HW.out, HW.out]; omega) (hP4.out.below HO6.out.2).size ?_; intro A5 c5 w5 hown5 hgrow5 _; have hP5 := Lib.hid ((hP4.out.below HO6.out.2).grown (hown4.below HO6.out.2 (Nat.le_refl _)) hgrow5); clear hgrow5)
        | (refine step_app elemB encB rfl (.tmp 31) (.tmp 34) rfl w.heap.size _ (p.textsTo 2 ++ word (p.prio + 1073741824)) rfl (by first | exact List.length_append ▸ hown4) _ (word p.size) c6 rfl (HO6.out.1.rdf.grown G4.out (fun k hk => by have := HH.out.2.2 k hk; have := HO3.out.2.size; simp at this; omega)).rds (by rw [List.length_append, HW.out, HW.out]; omega) (by rw [List.length_append, HW.out, HW.out]; omega) hP4.out.size ?_; intro A5 c5 w5 hown5 hgrow5 _; have hP5 := Lib.hid (hP4.out.grown hown4 hgrow5); clear hgrow5))
      all_goals (go_wp2_with fail; go_meet; have h5 := hown5; rw [List.length_append] at h5; exact ⟨A5, c5, by rw [HL.out], by rw [HL.out, HT.out]; exact h5, hP5.out⟩)
    case rest =>
      clear HH HT HL is k1 k10
      obtain ⟨A, c, rfl, hown, hP⟩ := hcut
      go_wp2_with fail
      go_loopw [3, 4] (fun b i wr => ∃ (k : Nat) (A : Option Addr) (c : Nat), k ≤ 3 ∧ i = .int .i64 k ∧ b = .slice A (p.upTo (2 + k) 0).length c ∧
          Own wr w.heap.size 5 encB (.slice A (p.upTo (2 + k) 0).length c) (p.upTo (2 + k) 0) ∧ PS p w wr) (fun _ i _ => 3 - (intOf i).toNat)
      case atStart => exact ⟨0, A, c, by omega, rfl, rfl, hown, hP⟩
      case round =>
        clear hown hP
        obtain ⟨k, A, c, hk, rfl, rfl, hown, hP⟩ := hrel
        by_cases hlt : k < 3
        · have ck : wr.cell? ⟨w.heap.size, 3 + k, none⟩ = some (.int .i64 (p.nm (2 + k))) := hP.c _ (p.cell_nm k 2 (by omega) hlt)
          have hI := p.nm_I64 hp (2 + k) (by omega)
          have dk : decide ((k : Int) < 3) = true := decide_eq_true (by omega)
          have hl := p.upTo_len (2 + k) 0 (by omega) (by omega) ht2
          have HN : Hid (p.upTo (2 + (k + 1)) 0 = p.upTo (2 + k) 0 ++ word (p.nm (2 + k))) := p.upTo_word (2 + k)
          have HNL : Hid ((p.upTo (2 + (k + 1)) 0).length = (p.upTo (2 + k) 0).length + (word (p.nm (2 + k))).length) := by show _ = _; rw [HN.out, List.length_append]
          have H := Lib.hid (And.intro hown hP)
          clear hown hP
          go_wp2_with fail
          refine (refWord_any _ _ hI).mono ?_; rintro e w3 ⟨A3, c3, rfl, hO3, hb3⟩
          have H3 := Lib.hid (And.intro hO3.toRds hb3)
          clear hO3 hb3 ck hI
          go_wp2_with (at_builtin; refine wl_app elemB encB rfl (.tmp 40) (.tmp 45) rfl w.heap.size _ (p.upTo (2 + k) 0) rfl (H.out.1.below H3.out.2 (Nat.le_refl _)) A3 (word (p.nm (2 + k))) c3 rfl H3.out.1 (by rw [HW.out]; omega) (by rw [HW.out]; omega) (H.out.2.below H3.out.2).size ?_; intro A4 c4 w4 hown4 hgrow4 _; have hP4 := Lib.hid ((H.out.2.below H3.out.2).grown (H.out.1.below H3.out.2 (Nat.le_refl _)) hgrow4); clear hgrow4)
          go_roundw
          case rel => exact ⟨k + 1, A4, c4, by omega, by go_num, by rw [HNL.out], by rw [HNL.out, HN.out]; exact hown4, hP4.out⟩
          case measure => simp [intOf]; omega
        · have E4 : Hid (2 + k = 2 + 3) := by show _ = _; omega
          have hl4 := p.upTo_len (2 + k) 0 (by omega) (by omega) ht2
          have dk4 : decide ((k : Int) < 3) = false := decide_eq_false (by omega)
          go_wp2_with fail
          go_loopw [3, 5] (fun b i wr => ∃ (k : Nat) (A : Option Addr) (c : Nat), k ≤ 3 ∧ i = .int .i64 k ∧ b = .slice A (p.upTo (5 + k) 0).length c ∧
              Own wr w.heap.size 5 encB (.slice A (p.upTo (5 + k) 0).length c) (p.upTo (5 + k) 0) ∧ PS p w wr) (fun _ i _ => 3 - (intOf i).toNat)
          case atStart => exact ⟨0, A, c, by omega, rfl, by rw [show 5 + 0 = 2 + k from E4.out.symm], by rw [show 5 + 0 = 2 + k from E4.out.symm]; exact hown, hP⟩
          case round =>
            clear hown hP
            obtain ⟨k, A, c, hk, rfl, rfl, hown, hP⟩ := hrel
            by_cases hlt : k < 3
            · have ck : wr.cell? ⟨w.heap.size, 6 + k, none⟩ = some (.int .i64 (p.nm (5 + k))) := hP.c _ (p.cell_nm k 5 (by omega) hlt)
              have hI := p.nm_I64 hp (5 + k) (by omega)
              have dk : decide ((k : Int) < 3) = true := decide_eq_true (by omega)
              have hl := p.upTo_len (5 + k) 0 (by omega) (by omega) ht2
              have HN : Hid (p.upTo (5 + (k + 1)) 0 = p.upTo (5 + k) 0 ++ word (p.nm (5 + k))) := p.upTo_word (5 + k)
              have HNL : Hid ((p.upTo (5 + (k + 1)) 0).length = (p.upTo (5 + k) 0).length + (word (p.nm (5 + k))).length) := by show _ = _; rw [HN.out, List.length_append]
              have H := Lib.hid (And.intro hown hP)
              clear hown hP
              go_wp2_with fail
              refine (refWord_any _ _ hI).mono ?_; rintro e w3 ⟨A3, c3, rfl, hO3, hb3⟩
              have H3 := Lib.hid (And.intro hO3.toRds hb3)
              clear hO3 hb3 ck hI
              go_wp2_with (at_builtin; refine wl_app elemB encB rfl (.tmp 51) (.tmp 56) rfl w.heap.size _ (p.upTo (5 + k) 0) rfl (H.out.1.below H3.out.2 (Nat.le_refl _)) A3 (word (p.nm (5 + k))) c3 rfl H3.out.1 (by rw [HW.out]; omega) (by rw [HW.out]; omega) (H.out.2.below H3.out.2).size ?_; intro A4 c4 w4 hown4 hgrow4 _; have hP4 := Lib.hid ((H.out.2.below H3.out.2).grown (H.out.1.below H3.out.2 (Nat.le_refl _)) hgrow4); clear hgrow4)
              go_roundw
              case rel => exact ⟨k + 1, A4, c4, by omega, by go_num, by rw [HNL.out], by rw [HNL.out, HN.out]; exact hown4, hP4.out⟩
              case measure => simp [intOf]; omega
            · have E5 : Hid (5 + k = 5 + 3) := by show _ = _; omega
              have hl5 := p.upTo_len (5 + k) 0 (by omega) (by omega) ht2
              have dk5 : decide ((k : Int) < 3) = false := decide_eq_false (by omega)
              have cc : wr.cell? ⟨w.heap.size, 2, none⟩ = some (.bool p.crit) := hP.c 2 rfl
              have hsz := hP.size
              have e8 : p.upTo (5 + k) 0 ++ [critB p.crit] = p.bytes := by rw [E5.out]; simp [Pd.upTo, Pd.bytes, Pd.textsTo]
              cases hcr : p.crit
              · have hrd : Rds (wr.alloc (.cells #[.int .u8 0] 5)) encB (some ⟨wr.heap.size, 0, none⟩) [critB p.crit] := Rds.made _ _ _ _ _ _ (by rw [encB_all, hcr]; rfl)
                rw [hcr] at cc
                have H := Lib.hid (And.intro hrd (And.intro e8 hP))
                have HO := Lib.hid (hown.alloc (.cells #[.int .u8 0] 5))
                clear hrd hown hP hcr e8
                go_wp2_with (at_builtin; refine wl_app elemB encB rfl (.tmp 63) (.tmp 64) rfl w.heap.size _ (p.upTo (5 + k) 0) rfl HO.out (some ⟨wr.heap.size, 0, none⟩) [critB p.crit] 1 rfl H.out.1 (by simp; omega) (by simp; omega) (by simp; omega) ?_; intro A1 c1 w2 hown1 hgrow1 _; have G := Lib.hid hgrow1; clear hgrow1)
                obtain ⟨hrd, e8, hP⟩ := H.out
                have hb1 := (hP.alloc _).grown HO.out G.out
                have hT3 : (p.upTo (5 + k) 0).length + [critB p.crit].length = p.bytes.length := by rw [← e8, List.length_append]
                rw [hT3, e8] at hown1
                go_ret
                exact ⟨A1, c1, by rw [← hT3]; rfl, hown1, hb1.2⟩
              · have hrd : Rds (wr.alloc (.cells #[.int .u8 1] 5)) encB (some ⟨wr.heap.size, 0, none⟩) [critB p.crit] := Rds.made _ _ _ _ _ _ (by rw [encB_all, hcr]; rfl)
                rw [hcr] at cc
                have H := Lib.hid (And.intro hrd (And.intro e8 hP))
                have HO := Lib.hid (hown.alloc (.cells #[.int .u8 1] 5))
                clear hrd hown hP hcr e8
                go_wp2_with (at_builtin; refine wl_app elemB encB rfl (.tmp 60) (.tmp 61) rfl w.heap.size _ (p.upTo (5 + k) 0) rfl HO.out (some ⟨wr.heap.size, 0, none⟩) [critB p.crit] 1 rfl H.out.1 (by simp; omega) (by simp; omega) (by simp; omega) ?_; intro A1 c1 w2 hown1 hgrow1 _; have G := Lib.hid hgrow1; clear hgrow1)
                obtain ⟨hrd, e8, hP⟩ := H.out
                have hb1 := (hP.alloc _).grown HO.out G.out
                have hT3 : (p.upTo (5 + k) 0).length + [critB p.crit].length = p.bytes.length := by rw [← e8, List.length_append]
                rw [hT3, e8] at hown1
                go_ret
                exact ⟨A1, c1, by rw [← hT3]; rfl, hown1, hb1.2⟩
end Go.Proofs.YtakgblgbfbpmoaaDoor

namespace Go.Proofs.YtakgblgbfbpmoaaDoor
open Go.ChangeShapes Go.WideShapes Go.ChangeAt Go.RowKit

theorem kidsA : Kids Tryd.prog (· < Tryd.prog.types.size) := kids_rows (by kernel_rfl) (by kernel_rfl)
theorem fullA : ∀ {t e : TypeId}, t < Tryd.prog.types.size → Tryd.prog.underlying t = some (.slice e) → 0 < Tryd.prog.cellsOf e := fun {t e} h1 h2 => slices_full_of Tryd.prog (by kernel_rfl) t e h1 h2

/-- a step that began a little later -/
theorem below_from {w w0 w' : World} (h0 : Below w.heap.size w w0) (hb : Below w0.heap.size w0 w') : Below w.heap.size w w' := h0.trans (hb.mono h0.size)
theorem below_draw {w w' : World} (hb : Below w.drew.heap.size w.drew w') : Below w.heap.size w w' := below_from (Below.refl _ _).drew hb
theorem below_drawN {w w' : World} {n : Nat} (hb : Below (w.drewN n).heap.size (w.drewN n) w') : Below w.heap.size w w' := below_from (w0 := w.drewN n) ⟨rfl, rfl, rfl, Nat.le_refl _, fun _ _ => rfl⟩ hb
theorem below_sameAt {W W' : World} (hb : Below W.heap.size W W') {p : MemPlace} (hp : p.block < W.heap.size) : W.sameAt W' p := by
  cases p with
  | cell b off => exact (bcell hb).1 b off hp
  | map b => exact hb.block b hp

section
variable {H : Type} {enc : TypeId × Value → H} {W W' : World}
theorem trodAll_again (hb : Below W.heap.size W W') : ∀ {ts : List TypeId} {vs : List Value} {ds : List (DataW H)} {ps : List MemPlace}, (∀ t ∈ ts, t < Tryd.prog.types.size) →
    DataW.TrodAll enc Tryd.prog W 0 (fun _ => true) true ts vs ds ps → (∀ p ∈ ps, p.block < W.heap.size) → DataW.TrodAll enc Tryd.prog W' 0 (fun b => decide (b < W.heap.size)) true ts vs ds ps
  | [], [], [], _, _, h, _ => h
  | t :: ts, v :: vs, d :: ds, _, hT, ⟨p, q, ⟨n, h1⟩, h2, e⟩, hl =>
    ⟨p, q, ⟨n, DataW.trod_stays kidsA fullA (fun h => by cases h) (hT t (List.mem_cons.2 (Or.inl rfl))) h1 (fun x hx => below_sameAt hb (hl x (by rw [e]; exact List.mem_append_left _ hx))) (fun x hx => decide_eq_true (hl x (by rw [e]; exact List.mem_append_left _ hx)))⟩,
      trodAll_again hb (fun t ht => hT t (List.mem_cons.2 (Or.inr ht))) h2 (fun x hx => hl x (by rw [e]; exact List.mem_append_right _ hx)), e⟩

/-- the post of a law that returned true and left what was there -/
theorem post_true {f : Func} {s : ChangeSpec} {args : Array Value} {ds gs : List (DataW H)} {before : List MemPlace} (hW : DataW.Whole enc Tryd.prog f.params.toList s.vars false W args.toList ds gs before)
    (hv : s.vars = []) (hr : f.resultTypes = #[4]) (hT : ∀ t ∈ f.params.toList, t < Tryd.prog.types.size) (hfn : s.fn H (ds ++ []) = { results := [.lit (.bool true)], args := ds }) (hb : Below W.heap.size W W') :
    s.post enc Tryd.prog f false true false false W args (.bool true) W' := by
  have hlt : ∀ p ∈ before, p.block < W.heap.size := fun p hp => hW.lt p hp
  have hW' := hW
  obtain ⟨p, q, hA, hV, rfl, hfz, hnd⟩ := hW
  rw [hv] at hV
  obtain ⟨rfl, rfl⟩ := trodVars_none hV
  rw [List.append_nil] at hlt
  refine ⟨ds, [], _, [], p, [], hW', ?_, ?_, ?_, hb.frame _, fun h => by cases h⟩
  · rw [hfn, hr]; exact trodAll_mk1 (shut_bool Tryd.underlying4 _)
  · rw [hfn]; exact trodAll_again hb hT hA hlt
  · rw [hfn, hv]; rfl
end

/-! ### a slice opened -/
section
variable {H : Type} {enc : TypeId × Value → H} {P : Program} {w : World} {base : Nat} {spare : Nat → Bool} {held : Bool} {α : Type} {size : Nat}
theorem cell_some_lt {b o : Nat} {s : Option Nat} {v : Value} (h : w.cell? ⟨b, o, s⟩ = some v) : b < w.heap.size := by
  rcases Nat.lt_or_ge b w.heap.size with hlt | hge
  · exact hlt
  · simp [World.cell?, Array.getElem?_eq_none hge] at h
theorem addr_of_cell {a : Addr} {i : Nat} {v : Value} (h : w.cell? (a.add i) = some v) : a.add i = ⟨a.block, a.off + i, none⟩ := by
  unfold Addr.add at h ⊢
  split
  · rename_i h0
    subst h0
    rw [if_pos rfl] at h
    cases a with
    | mk b o s =>
      simp only [World.cell?] at h
      cases s with
      | none => rfl
      | some s =>
        split at h
        · simp at h
        · cases h
  · rfl
theorem open_rds {t e : TypeId} (ht : P.underlying t = some (.slice e)) (E : Enc α size) (hC : P.cellsOf e = size) (Wf : α → Prop)
    (hel : ∀ (fuel : Nat) (cs : List Value) (y : DataW H × List MemPlace), DataW.trod enc P w base spare held fuel e cs = some y → ∃ x, Wf x ∧ cs = E.enc x)
    {fuel : Nat} {cs : List Value} {x : DataW H × List MemPlace} (h : DataW.trod enc P w base spare held fuel t cs = some x) :
    ∃ A l c, cs = [.slice A l.length c] ∧ l.length ≤ c ∧ c ≤ 9223372036854775807 ∧ Rds w E A l ∧ ∀ x ∈ l, Wf x := by
  rcases DataW.trod_slice ht h with ⟨rfl, _⟩ | ⟨a, len, cap, elems, rest, n, _, rfl, _, _, hl, hm, hlen, hel', _⟩
  · exact ⟨none, [], 0, rfl, Nat.le_refl _, by omega, Rds.nil _ _ _, fun _ h => by cases h⟩
  · have each : ∀ i, i < len → ∃ x : α, Wf x ∧ w.cells? base (a.add (i * size)) size = some (E.enc x) := fun i hi => by
      have h1 := hel' i hi
      rw [hC, List.getElem?_eq_getElem (by omega)] at h1
      obtain ⟨cs', hc, ht'⟩ := Option.bind_eq_some_iff.1 h1
      obtain ⟨x, hx, rfl⟩ := hel _ _ _ ht'
      exact ⟨x, hx, hc⟩
    have build : ∀ k, k ≤ len → ∃ l : List α, l.length = k ∧ (∀ x ∈ l, Wf x) ∧ ∀ j u, (E.all l)[j]? = some u → w.cell? ⟨a.block, a.off + j, none⟩ = some u := by
      intro k
      induction k with
      | zero => intro _; exact ⟨[], rfl, (fun _ h => by cases h), (fun j u h => by simp [Enc.all] at h)⟩
      | succ k ih =>
        intro hk
        obtain ⟨l, hl1, hl2, hl3⟩ := ih (by omega)
        obtain ⟨x, hx, hc⟩ := each k (by omega)
        refine ⟨l ++ [x], by simp [hl1], fun y hy => ?_, fun j u hu => ?_⟩
        · rcases List.mem_append.1 hy with hy | hy
          · exact hl2 y hy
          · rw [List.mem_singleton.1 hy]; exact hx
        · rw [E.all_append, E.all_one] at hu
          have hal : (E.all l).length = k * size := by rw [E.all_len, hl1]
          rcases Nat.lt_or_ge j (k * size) with hj | hj
          · rw [List.getElem?_append_left (by omega)] at hu
            exact hl3 j u hu
          · rw [List.getElem?_append_right (by omega), hal] at hu
            obtain ⟨_, hcl, hat⟩ := World.cells?_some hc
            have hjs : j - k * size < size := by
              have := (List.getElem?_eq_some_iff.1 hu).1
              rw [E.len] at this; exact this
            have hcell := (hat _ hjs).trans hu
            have e1 := addr_of_cell hcell
            rw [e1] at hcell
            have h0 := (hat 0 E.pos).trans (List.getElem?_eq_getElem (by rw [E.len]; exact E.pos))
            have e0 : a.add (k * size) = ⟨a.block, a.off + k * size, none⟩ := by
              have h0' : w.cell? ((a.add (k * size)).add 0) = some ((E.enc x)[0]'(by rw [E.len]; exact E.pos)) := h0
              have : (a.add (k * size)).add 0 = a.add (k * size) := by simp [Addr.add]
              rw [this] at h0'
              exact addr_of_cell h0'
            rw [e0] at hcell
            simp only [Nat.add_assoc] at hcell
            rw [show k * size + (j - k * size) = j by omega] at hcell
            exact hcell
    obtain ⟨l, hl1, hl2, hl3⟩ := build len (Nat.le_refl _)
    subst hl1
    refine ⟨some a, l, cap, rfl, hl, by simpa only [maxLen] using hm, fun hn => ?_, hl2⟩
    obtain ⟨x, l', rfl⟩ := List.exists_cons_of_ne_nil hn
    obtain ⟨_, hcl, hat⟩ := World.cells?_some (each 0 (by simp)).choose_spec.2
    have h0 := (hat 0 E.pos).trans (List.getElem?_eq_getElem (by rw [E.len]; exact E.pos))
    have e00 : (a.add (0 * size)).add 0 = a.add 0 := by simp [Addr.add]
    rw [e00] at h0
    have ea := addr_of_cell h0
    have ea' : a = ⟨a.block, a.off, none⟩ := by simpa [Addr.add] using ea
    exact ⟨a.block, a.off, by rw [← ea'], by rw [ea] at h0; exact cell_some_lt h0, hl3⟩

theorem open_rds_val {r : Reach} {b0 : Nat} {t e : TypeId} (ht : P.underlying t = some (.slice e)) (E : Enc α size) (hC : P.cellsOf e = size) (Wf : α → Prop)
    (hel : ∀ (fuel : Nat) (cs : List Value) (y : DataW H × List MemPlace), DataW.trod enc P w base spare held fuel e cs = some y → ∃ x, Wf x ∧ cs = E.enc x)
    {v : Value} {d : DataW H} {ps : List MemPlace} (hval : Value.okWide P w r b0 t v) (hd : DataW.Trod enc P w base spare held t v d ps) :
    ∃ A l c, v = .slice A l.length c ∧ l.length ≤ c ∧ c ≤ 9223372036854775807 ∧ Rds w E A l ∧ ∀ x ∈ l, Wf x := by
  obtain ⟨a, n, cap, rfl⟩ := okWide_slice ht hval
  obtain ⟨fuel, hf⟩ := hd
  obtain ⟨A, l, c, h1, h2⟩ := open_rds ht E hC Wf hel hf
  simp only [Value.cells, List.cons.injEq, and_true] at h1
  exact ⟨A, l, c, h1, h2⟩
end

theorem params_lt {f : Func} (h : (f.params.toList.all fun t => decide (t < Tryd.prog.types.size)) = true) : ∀ t ∈ f.params.toList, t < Tryd.prog.types.size := fun t ht => of_decide_eq_true (List.all_eq_true.1 h t ht)

theorem ownKnobA : ownKnob Tryd.prog.godebug = none := by kernel_rfl
end Go.Proofs.YtakgblgbfbpmoaaDoor

namespace Go.Proofs.YtakgblgbfbpmoaaDoor
open Go.ChangeShapes Go.WideShapes Go.ChangeAt Go.RowKit

theorem wf_I64 {n : Int} : (Lit.int .i64 n).wf = true ↔ I64 n := by
  have e1 : IntKind.i64.min = -9223372036854775808 := by decide
  have e2 : IntKind.i64.max = 9223372036854775807 := by decide
  unfold I64
  simp [Lit.wf, e1, e2]
def Pd.data (H : Type) (p : Pd) : DataW H := .agg [.lit (.string p.id.data.toList), .lit (.int .i64 p.prio), .lit (.bool p.crit), .agg [.lit (.int .i64 p.q0), .lit (.int .i64 p.q1), .lit (.int .i64 p.q2)], .agg [.lit (.int .i64 p.l0), .lit (.int .i64 p.l1), .lit (.int .i64 p.l2)], .lit (.string p.image.data.toList), .lit (.int .i64 p.size)]
theorem cellsP : Tryd.prog.cellsOf 44 = 11 := by kernel_rfl
theorem cellsS : Tryd.prog.cellsOf 9 = 1 := by kernel_rfl
theorem cellsI : Tryd.prog.cellsOf 3 = 1 := by kernel_rfl
theorem cellsB : Tryd.prog.cellsOf 4 = 1 := by kernel_rfl
theorem cellsA : Tryd.prog.cellsOf 42 = 3 := by kernel_rfl

section
variable {H : Type} {enc : TypeId × Value → H} {w : World} {base : Nat} {spare : Nat → Bool} {held : Bool}

set_option maxRecDepth 100000 in
theorem trod_ints {fuel : Nat} {c0 c1 c2 : Value} {x : DataW H × List MemPlace} (h : DataW.trod enc Tryd.prog w base spare held fuel 42 [c0, c1, c2] = some x) :
    ∃ a b c, c0 = .int .i64 a ∧ c1 = .int .i64 b ∧ c2 = .int .i64 c ∧ I64 a ∧ I64 b ∧ I64 c ∧ x = (.agg [.lit (.int .i64 a), .lit (.int .i64 b), .lit (.int .i64 c)], []) := by
  obtain ⟨y0, y1, y2, n, rfl, h0, h1, h2⟩ := trod_array3 Tryd.underlying42 cellsI h
  obtain ⟨a, e0, rfl, w0⟩ := DataW.trod_int Tryd.underlying3 h0
  obtain ⟨b, e1, rfl, w1⟩ := DataW.trod_int Tryd.underlying3 h1
  obtain ⟨c, e2, rfl, w2⟩ := DataW.trod_int Tryd.underlying3 h2
  simp only [List.cons.injEq, and_true] at e0 e1 e2
  exact ⟨a, b, c, e0, e1, e2, wf_I64.1 w0, wf_I64.1 w1, wf_I64.1 w2, rfl⟩

set_option maxRecDepth 100000 in
theorem trod_pd {fuel : Nat} {cs : List Value} {x : DataW H × List MemPlace} (h : DataW.trod enc Tryd.prog w base spare held fuel 44 cs = some x) : ∃ p : Pd, p.Wf ∧ cs = p.cells.toList ∧ x = (p.data H, []) := by
  obtain ⟨xs, n, _, rfl, hl, hlen, hf⟩ := DataW.trod_struct Tryd.underlying44 h
  rw [cellsP] at hl
  match cs, hl with
  | [c0, c1, c2, c3, c4, c5, c6, c7, c8, c9, c10], _ =>
  match xs, hlen with
  | [y0, y1, y2, y3, y4, y5, y6], _ =>
  have f0 := hf 0 _ rfl
  have f1 := hf 1 _ rfl
  have f2 := hf 2 _ rfl
  have f3 := hf 3 _ rfl
  have f4 := hf 4 _ rfl
  have f5 := hf 5 _ rfl
  have f6 := hf 6 _ rfl
  simp [cellsS, cellsI, cellsB, cellsA] at f0 f1 f2 f3 f4 f5 f6
  obtain ⟨s, e0, rfl, w0⟩ := DataW.trod_string Tryd.underlying9 f0
  obtain ⟨pr, e1, rfl, w1⟩ := DataW.trod_int Tryd.underlying3 f1
  obtain ⟨cr, e2, rfl⟩ := DataW.trod_bool Tryd.underlying4 f2
  obtain ⟨q0, q1, q2, rfl, rfl, rfl, v0, v1, v2, rfl⟩ := trod_ints f3
  obtain ⟨l0, l1, l2, rfl, rfl, rfl, u0, u1, u2, rfl⟩ := trod_ints f4
  obtain ⟨im, e5, rfl, w5⟩ := DataW.trod_string Tryd.underlying9 f5
  obtain ⟨sz, e6, rfl, w6⟩ := DataW.trod_int Tryd.underlying3 f6
  simp only [List.cons.injEq, and_true] at e0 e1 e2 e5 e6
  subst e0 e1 e2 e5 e6
  unfold maxLen at w0 w5
  exact ⟨⟨s, pr, cr, q0, q1, q2, l0, l1, l2, im, sz⟩, ⟨wf_I64.1 w1, v0, v1, v2, u0, u1, u2, wf_I64.1 w6, by simp at w0; omega, by simp at w5; omega⟩, rfl, rfl⟩

set_option maxRecDepth 100000 in
theorem open_pd {r : Reach} {b0 : Nat} {v : Value} {d : DataW H} {ps : List MemPlace} (hval : Value.okWide Tryd.prog w r b0 44 v) (hd : DataW.Trod enc Tryd.prog w base spare held 44 v d ps) :
    ∃ p : Pd, p.Wf ∧ v = .agg p.cells ∧ d = p.data H ∧ ps = [] := by
  obtain ⟨cs, rfl, _⟩ := okWide_struct Tryd.underlying44 hval
  obtain ⟨fuel, hf⟩ := hd
  obtain ⟨p, hp, hc, hx⟩ := trod_pd hf
  have hc' : cs = p.cells := by
    have : cs.toList = p.cells.toList := hc
    exact Array.toList_inj.1 this
  simp only [Prod.mk.injEq] at hx
  exact ⟨p, hp, by rw [hc'], hx.1, hx.2⟩

theorem okWide_array {P : Program} {r : Reach} {b0 n : Nat} {t e : TypeId} {v : Value} (ht : P.underlying t = some (.array n e)) (h : Value.okWide P w r b0 t v) : ∃ cs, v = .agg cs ∧ cs.size = P.cellsOf t := by
  simp only [Value.okWide, ht] at h
  obtain ⟨cs, h1, h2, _⟩ := h
  exact ⟨cs, h1, h2⟩
set_option maxRecDepth 100000 in
theorem open_r3 {r : Reach} {b0 : Nat} {v : Value} {d : DataW H} {ps : List MemPlace} (hval : Value.okWide Tryd.prog w r b0 42 v) (hd : DataW.Trod enc Tryd.prog w base spare held 42 v d ps) :
    ∃ room : S3, I64 room.a ∧ I64 room.b ∧ I64 room.c ∧ v = .agg #[.int .i64 room.a, .int .i64 room.b, .int .i64 room.c] := by
  obtain ⟨cs, rfl, hl⟩ := okWide_array Tryd.underlying42 hval
  obtain ⟨fuel, hf⟩ := hd
  rw [cellsA] at hl
  obtain ⟨cs⟩ := cs
  match cs, hl with
  | [d0, d1, d2], _ =>
  obtain ⟨a, b, c, rfl, rfl, rfl, w0, w1, w2, _⟩ := trod_ints hf
  exact ⟨⟨a, b, c⟩, w0, w1, w2, rfl⟩
set_option maxRecDepth 100000 in
theorem open_pods {r : Reach} {b0 : Nat} {v : Value} {d : DataW H} {ps : List MemPlace} (hval : Value.okWide Tryd.prog w r b0 61 v) (hd : DataW.Trod enc Tryd.prog w base spare held 61 v d ps) :
    ∃ A l c, v = .slice A l.length c ∧ l.length ≤ c ∧ c ≤ 9223372036854775807 ∧ Rds w encP A l ∧ ∀ x ∈ l, Pd.Wf x :=
  open_rds_val Tryd.underlying61 encP cellsP Pd.Wf (fun _ _ _ h => by obtain ⟨p, hp, hc, _⟩ := trod_pd h; exact ⟨p, hp, hc⟩) hval hd
end
end Go.Proofs.YtakgblgbfbpmoaaDoor
