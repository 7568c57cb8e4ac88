/- bilgelaw12.PodSums: of whatever right pods: the sums of all requests; turned round they are the same. -/
import Derived.Test.YtjngkmfkgbcjjaaDoorAwake
import Derived.Test.YtjngkmfkgbcjjaaDoorRefRight
import Derived.Test.YtjngkmfkgbcjjaaDoorRefSums
import Derived.Test.YtjngkmfkgbcjjaaDoorAgain
import Derived.Outline
namespace Go.Proofs.YtjngkmfkgbcjjaaDoor
open Go.RowKit

theorem rev_snoc {α : Type} (l : List α) (k : Nat) (h : k < l.length) : (l.take (k + 1)).reverse = [l[k]] ++ (l.take k).reverse := by
  rw [List.take_succ_eq_append_getElem h, List.reverse_append]; rfl

set_option maxHeartbeats 8000000 in
theorem sumsLaw_any (l : List Pd) (A : Option Addr) (c : Nat) (w : World) (hr : Rds w encP A l) (hwf : ∀ p ∈ l, p.Wf) (hc : l.length ≤ c) (hm : c ≤ 9223372036854775807) :
    Calls Tryd.prog 6 #[.slice A l.length c] w fun e w' => e = .returned (.bool true) ∧ Below w.heap.size w w' := by
  have hml : l.length ≤ 9223372036854775807 := by omega
  have HM := Lib.hid hr
  have HW := Lib.hid hwf
  clear hr hwf hc hm
  go_enter Tryd.func6, Tryd.ntmps6
  go_wp2_with fail
  refine (awake_any _).mono ?_; rintro e w0 ⟨rfl, hb0⟩
  have HP0 := Lib.hid (And.intro (HM.out.below hb0) (hb0))
  clear hb0
  go_wp2_with fail
  refine (few_any l A c _ HP0.out.1 hml).mono ?_; rintro e w1 ⟨rfl, hb1⟩
  have HP1 := Lib.hid (And.intro (HP0.out.1.below hb1) (HP0.out.2.trans (hb1.mono HP0.out.2.size)))
  clear HP0 hb1
  cases hcond : fewB l
  case false =>
    clear hcond
    go_wp2_with fail
    refine (awake_any _).mono ?_; rintro e w2 ⟨rfl, hb2⟩
    have HP2 := Lib.hid (And.intro (HP1.out.1.below hb2) (HP1.out.2.trans (hb2.mono HP1.out.2.size)))
    clear HP1 hb2
    go_wp2_with fail
    go_ret
    exact ⟨rfl, HP2.out.2⟩
  case true =>
    have HS := Lib.hid hcond
    clear hcond
    have hfew : l.length ≤ 100 := by have := HS.out; unfold fewB at this; simp only [Bool.and_eq_true, decide_eq_true_eq] at this; exact this.2
    go_wp2_with fail
    go_loopw [3, 4] (fun b i wr => ∃ (k : Nat) (m : List Pd) (A' : Option Addr) (c' : Nat), k ≤ l.length ∧ i = .int .i64 k ∧ m = (l.take k).reverse ∧ b = .slice A' m.length c' ∧ Own wr w.heap.size 24 encP (.slice A' m.length c') m ∧ Below w.heap.size w wr) (fun _ i _ => l.length - (intOf i).toNat)
    case atStart => exact ⟨0, [], none, 0, by omega, rfl, by simp, rfl, Own.nil_ _ _ _ _, HP1.out.2⟩
    case round =>
      obtain ⟨k, m, A', c', hk, rfl, hm, rfl, hO, hB⟩ := hrel
      obtain ⟨wo, hwo⟩ : ∃ wo : World, wo = wr := ⟨_, rfl⟩
      have HB := Lib.hid (And.intro (HM.out.below hB) (And.intro hO hB))
      have HMM := Lib.hid hm
      clear hm hO hB hwo
      by_cases hlt : k < l.length
      · obtain ⟨b, off, rfl, hb, hcell⟩ := HB.out.1.at_ hlt
        have dk : decide ((k : Int) < (l.length : Int)) = true := decide_eq_true (by omega)
        have dk2 : (k : Int) < (l.length : Int) := by omega
        have hrange : wr.rangeAt b (off + k * 11) l[k].cells.toList := Rds.range hlt hcell
        have hsn := rev_snoc l k hlt
        have hpw := HW.out l[k] (List.getElem_mem hlt)
        generalize l[k] = p at *
        rw [← HMM.out] at hsn
        have hml2 : m.length ≤ 100 := by rw [HMM.out, List.length_reverse, List.length_take]; omega
        have H := Lib.hid (And.intro hrange hsn)
        clear hcell hrange hsn
        go_wp2_with (refine wpList_load_mid rfl 24 (.tmp 21) rfl b (off + k * 11) rfl p.cells.toList _ H.out.1 Tryd.underlying24 rfl infoPod ?_)
        refine (refRight_any p _ hpw).mono ?_; rintro e w2 ⟨rfl, hb2⟩
        have HC := Lib.hid (And.intro ((HB.out.1.below hb2)) (And.intro (HB.out.2.1.below hb2 (Nat.le_refl _)) (And.intro (HB.out.2.2.trans (hb2.mono HB.out.2.2.size)) (And.intro hb2 (show w2.rangeAt b (off + k * 11) p.cells.toList from fun j v hv => (hb2.cell (p := ⟨b, off + k * 11 + j, none⟩) hb).trans (H.out.1 j v hv))))))
        clear hb2
        cases hr : p.right
        · clear hr
          go_wp2_with fail
          go_ret
          exact ⟨rfl, HC.out.2.2.1⟩
        · clear hr
          have HO2 : Hid (Own (w2.alloc (.cells p.cells 24)) w2.heap.size 24 encP (.slice (some ⟨w2.heap.size, 0, none⟩) 1 1) [p]) := Own.made w2 w2.heap.size 24 encP [p] p.cells (by rw [encP.all_one]; rfl) (Nat.le_refl _) (by simp)
          have HB2 : Hid (Below w2.heap.size w2 (w2.alloc (.cells p.cells 24))) := (Below.refl _ _).alloc (Nat.le_refl _) _
          go_wp2_with (first
            | (refine wpList_load_mid rfl 24 (.tmp 27) rfl b (off + k * 11) rfl p.cells.toList _ HC.out.2.2.2.2 Tryd.underlying24 rfl infoPod ?_)
            | (at_builtin; refine wl_app elemP encP rfl (.tmp 29) (.tmp 30) rfl w2.heap.size _ [p] rfl HO2.out A' m c' rfl (HC.out.2.1.toRds.below HB2.out) (by simp; omega) (by simp; omega) (by simp) ?_; intro A3 k3 w3 hown3 hgrow3 _; have hbel3 := HO2.out.belowGrown HB2.out hgrow3 (Nat.le_refl _) HB2.out.size; have HX3 := Lib.hid (And.intro hown3 hbel3); clear hown3 hgrow3 hbel3))
          have hl1 : [p].length + m.length = ([p] ++ m).length := (List.length_append).symm
          have hx3 := HX3.out.1.mono HC.out.2.2.1.size
          rw [hl1] at hx3
          go_roundw
          case rel => exact ⟨k + 1, [p] ++ m, A3, k3, by omega, by go_num, H.out.2.symm, by first | rfl | (rw [← hl1]; rfl) | (rw [← hl1]; exact congrArg (fun n => Value.slice A3 n k3) (Nat.add_comm _ _)), hx3, HC.out.2.2.1.trans (HX3.out.2.mono HC.out.2.2.1.size)⟩
          case measure => simp [intOf]; omega
      · obtain rfl : k = l.length := by omega
        rw [List.take_length] at HMM
        have hlc : l.length ≤ 140737488355328 := by omega
        have hml2 : m.length ≤ 140737488355328 := by rw [HMM.out, List.length_reverse]; exact hlc
        have hmw : ∀ x ∈ m, x.Wf := by rw [HMM.out]; intro x hx; exact HW.out x (List.mem_reverse.1 hx)
        have hsm : sumsOf m = sumsOf l := by rw [HMM.out]; exact sumsOf_perm (List.reverse_perm l)
        have HSM := Lib.hid hsm
        have HMW := Lib.hid hmw
        clear hsm hmw
        go_wp2_with fail
        refine (sums_any l A c _ HB.out.1 HW.out hlc).mono ?_; rintro e w2 ⟨rfl, hb2⟩
        have HC := Lib.hid (And.intro (HB.out.1.below hb2) (And.intro (HB.out.2.1.below hb2 (Nat.le_refl _)) (HB.out.2.2.trans (hb2.mono HB.out.2.2.size))))
        clear hb2
        go_wp2_with fail
        refine (refSums_any l A c _ HC.out.1 HW.out hlc).mono ?_; rintro e w3 ⟨rfl, hb3⟩
        have HD := Lib.hid (And.intro (HC.out.1.below hb3) (And.intro (HC.out.2.1.below hb3 (Nat.le_refl _)) (HC.out.2.2.trans (hb3.mono HC.out.2.2.size))))
        clear hb3
        go_wp2_with fail
        refine (sums_any m A' c' _ HD.out.2.1.toRds HMW.out hml2).mono ?_; rintro e w4 ⟨rfl, hb4⟩
        rw [HSM.out]
        have HE := Lib.hid (And.intro (HD.out.1.below hb4) (HD.out.2.2.trans (hb4.mono HD.out.2.2.size)))
        clear hb4
        go_wp2_with fail
        refine (refSums_any l A c _ HE.out.1 HW.out hlc).mono ?_; rintro e w5 ⟨rfl, hb5⟩
        have HF := Lib.hid (HE.out.2.trans (hb5.mono HE.out.2.size))
        clear hb5
        go_wp2_with fail
        go_ret
        exact ⟨ret_bool (by simp), HF.out⟩
end Go.Proofs.YtjngkmfkgbcjjaaDoor
