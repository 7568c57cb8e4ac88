/- bilgelaw12.PodBack: a right pod that is put is cut as it was, whatever stands behind; no beginning of its bytes has one. -/
import Derived.Test.YtjngkmfkgbcjjaaDoorAwake
import Derived.Test.YtjngkmfkgbcjjaaDoorRefPut
import Derived.Test.YtjngkmfkgbcjjaaDoorBack3
import Derived.Test.YtjngkmfkgbcjjaaDoorEqPod
import Derived.Test.YtjngkmfkgbcjjaaDoorAgain
import Derived.Outline
namespace Go.Proofs.YtjngkmfkgbcjjaaDoor
open Go.RowKit

set_option maxHeartbeats 8000000 in
theorem back_any (p : Pd) (A : Option Addr) (l : List UInt8) (c : Nat) (at_ : UInt8) (w : World) (hp : p.Wf) (hr : Rds w encB A l) :
    Calls Tryd.prog 4 #[.agg p.cells, .slice A l.length c, .int .u8 at_.toNat] w fun e w' => e = .returned (.bool true) ∧ Below w.heap.size w w' := by
  have HM := Lib.hid hr
  clear hr
  go_enter Tryd.func4, Tryd.ntmps4
  go_wp2_with fail
  refine (awake_any _).mono ?_; rintro e w0 ⟨rfl, hb0'⟩
  have hb0 := below_from ((Below.refl _ _).alloc (Nat.le_refl _) _) hb0'
  have HP0 := Lib.hid (And.intro ((Blk.new w 24 p.cells).belowAll hb0') (And.intro (HM.out.below hb0) (hb0)))
  have c0P := HP0.out.1.cell
  clear hb0 hb0' HM
  go_wp2_with fail
  refine (small_any p _).mono ?_; rintro e w1 ⟨rfl, hb1⟩
  have HP1 := Lib.hid (And.intro (HP0.out.1.belowAll hb1) (And.intro (HP0.out.2.1.below hb1) (HP0.out.2.2.trans (hb1.mono HP0.out.2.2.size))))
  clear c0P HP0 hb1
  have c1P := HP1.out.1.cell
  cases hcond : p.small
  case false =>
    clear hcond
    go_wp2_with fail
    refine (awake_any _).mono ?_; rintro e w2 ⟨rfl, hb2⟩
    have HP2 := Lib.hid (And.intro (HP1.out.1.belowAll hb2) (And.intro (HP1.out.2.1.below hb2) (HP1.out.2.2.trans (hb2.mono HP1.out.2.2.size))))
    clear c1P HP1 hb2
    go_wp2_with fail
    go_ret
    exact ⟨rfl, HP2.out.2.2⟩
  case true =>
    have HS := Lib.hid hcond
    clear hcond
    by_cases hcond : 300 < l.length
    · have hl3 : (300 : Int) < (l.length : Int) := by omega
      clear hcond
      go_wp2_with fail
      refine (awake_any _).mono ?_; rintro e w2 ⟨rfl, hb2⟩
      have HP2 := Lib.hid (And.intro (HP1.out.1.belowAll hb2) (And.intro (HP1.out.2.1.below hb2) (HP1.out.2.2.trans (hb2.mono HP1.out.2.2.size))))
      clear c1P HP1 hb2
      go_wp2_with fail
      go_ret
      exact ⟨rfl, HP2.out.2.2⟩
    · have hl3 : (l.length : Int) ≤ 300 := by omega
      have hlen : l.length ≤ 300 := by omega
      clear hcond
      go_wp2_with fail
      cases hrt : p.right
      · have HR := Lib.hid hrt
        clear hrt
        refine (put_no p _ hp HR.out).mono ?_; rintro e w2 ⟨rfl, hb2⟩
        have HP2 := Lib.hid (And.intro (HP1.out.1.belowAll hb2) (And.intro (HP1.out.2.1.below hb2) (HP1.out.2.2.trans (hb2.mono HP1.out.2.2.size))))
        clear c1P HP1 hb2
        have c2P := HP2.out.1.cell
        go_wp2_with fail
        refine (right_any p _ hp).mono ?_; rintro e w3 ⟨rfl, hb3⟩
        rw [HR.out]
        have HP3 := Lib.hid (And.intro (HP2.out.1.belowAll hb3) (And.intro (HP2.out.2.1.below hb3) (HP2.out.2.2.trans (hb3.mono HP2.out.2.2.size))))
        clear c2P HP2 hb3
        go_wp2_with fail
        go_ret
        exact ⟨rfl, HP3.out.2.2⟩
      · have HR := Lib.hid hrt
        clear hrt
        refine (put_yes p _ hp HR.out).mono ?_; rintro e w2 ⟨A1, k1, rfl, hO, hb2⟩
        have HP2 := Lib.hid (And.intro (hO.mono HP1.out.2.2.size) (And.intro (HP1.out.1.belowAll hb2) (And.intro (HP1.out.2.1.below hb2) (HP1.out.2.2.trans (hb2.mono HP1.out.2.2.size)))))
        clear c1P HP1 hb2 hO
        have c2P := HP2.out.2.1.cell
        have hbl := (Pd.bytes_len_le p HR.out).1
        have hbl2 := (Pd.bytes_len_le p HR.out).2
        have hown0 : Own (w2.alloc (.cells #[] 5)) w2.heap.size 5 encB (.slice (some ⟨w2.heap.size, 0, none⟩) 0 0) [] := Own.made w2 w2.heap.size 5 encB [] #[] rfl (Nat.le_refl _) (by simp)
        have hbel0 : Below w2.heap.size w2 (w2.alloc (.cells #[] 5)) := (Below.refl _ _).alloc (Nat.le_refl _) _
        have HW := Lib.hid (And.intro hown0 hbel0)
        clear hown0 hbel0
        go_wp2_with (first
          | (at_builtin; refine wl_app elemB encB rfl (.tmp 39) (.tmp 40) rfl w2.heap.size _ [] rfl HW.out.1 A1 p.bytes k1 rfl (HP2.out.1.toRds.below HW.out.2) (by simp; omega) (by simp; omega) (by simp) ?_; intro A3 k3 w3 hown3 hgrow3 _; have hbel3 := HW.out.1.belowGrown HW.out.2 hgrow3 (Nat.le_refl _) HW.out.2.size; rw [List.length_nil, Nat.zero_add, List.nil_append] at hown3; have HX3 := Lib.hid (And.intro hown3 hbel3); clear hown3 hgrow3 hbel3)
          | (at_builtin; refine wl_app elemB encB rfl (.tmp 41) (.tmp 42) rfl w2.heap.size _ p.bytes rfl HX3.out.1 A l c rfl (HP2.out.2.2.1.below HX3.out.2) (by omega) (by omega) HX3.out.2.size ?_; intro A4 k4 w4 hown4 hgrow4 _; have hbel4 := HX3.out.1.belowGrown HX3.out.2 hgrow4 (Nat.le_refl _) HX3.out.2.size; have HX4 := Lib.hid (And.intro hown4 hbel4); clear hown4 hgrow4 hbel4))
        have hb4 := HX4.out.2
        have HP3 := Lib.hid (And.intro (HX4.out.1) (And.intro (HP2.out.1.below hb4 (Nat.le_refl _)) (And.intro (HP2.out.2.1.belowAll hb4) (And.intro (HP2.out.2.2.1.below hb4) (HP2.out.2.2.2.trans (hb4.mono HP2.out.2.2.2.size))))))
        clear c2P HP2 hb4 HW HX3 HX4
        have c3P := HP3.out.2.2.1.cell
        have hcut := cut_some (p := p) (rest := l) A4 k4 (p.bytes ++ l) w4 HP3.out.1.toRds (by have := HP3.out.1.cap; omega) (by have := HP3.out.1.cap; omega) (by rw [List.length_append]; omega) (cut_bytes p hp HR.out l)
        rw [List.length_append] at hcut
        go_wp2_with fail
        refine (hcut).mono ?_; rintro e w5 ⟨A5, k5, rfl, hO, hb5⟩
        have HP4 := Lib.hid (And.intro (hO.mono HP3.out.2.2.2.2.size) (And.intro (HP3.out.1.below hb5 (Nat.le_refl _)) (And.intro (HP3.out.2.1.below hb5 (Nat.le_refl _)) (And.intro (HP3.out.2.2.1.belowAll hb5) (And.intro (HP3.out.2.2.2.1.below hb5) (HP3.out.2.2.2.2.trans (hb5.mono HP3.out.2.2.2.2.size)))))))
        clear c3P HP3 hb5 hO hcut
        have c4P := HP4.out.2.2.2.1.cell
        have ha0 : (0 : Int) ≤ (at_.toNat : Int) := by omega
        have ha1 : (at_.toNat : Int) ≤ 255 := by have := at_.toNat_lt; omega
        have hlp : (0 : Int) < (p.bytes.length : Int) := by omega
        obtain ⟨n, hn⟩ : ∃ n : Nat, n = at_.toNat % p.bytes.length := ⟨_, rfl⟩
        have hnl : n < p.bytes.length := by rw [hn]; exact Nat.mod_lt _ (by omega)
        have hn1 : ((at_.toNat : Int) % (p.bytes.length : Int)) = (n : Int) := by rw [hn]; exact (Int.natCast_emod _ _).symm
        have hk1 : p.bytes.length ≤ k1 := HP4.out.2.2.1.cap.2.1
        have hk2 : k1 ≤ 9223372036854775807 := HP4.out.2.2.1.cap.2.2
        have hk3 : (n : Int) ≤ (k1 : Int) := by omega
        clear hn
        go_wp2_with (refine wl_store_blk rfl 24 (.tmp 9) (.tmp 45) rfl w5.heap.size 24 zeroPod p.cells rfl rfl (Blk.new _ _ _) rfl infoPod (cells_one p) ?_; intro w6 hQ6 hg6 hs6; have hb6 := ((Below.refl w5.heap.size w5).alloc (Nat.le_refl _) (.cells zeroPod 24)).grown hg6 (by simp) (by intro k hk; cases hk; exact Nat.le_refl _); have HQ6 := Lib.hid (And.intro hQ6 hb6); clear hQ6 hg6 hs6 hb6)
        have hb6 := HQ6.out.2
        have HP5 := Lib.hid (And.intro (HQ6.out.1) (And.intro (HP4.out.1.below hb6 (Nat.le_refl _)) (And.intro (HP4.out.2.1.below hb6 (Nat.le_refl _)) (And.intro (HP4.out.2.2.1.below hb6 (Nat.le_refl _)) (And.intro (HP4.out.2.2.2.1.belowAll hb6) (And.intro (HP4.out.2.2.2.2.1.below hb6) (HP4.out.2.2.2.2.2.trans (hb6.mono HP4.out.2.2.2.2.2.size))))))))
        clear c4P HP4 hb6 HQ6
        have c5Q := HP5.out.1.cell
        have c5P := HP5.out.2.2.2.2.1.cell
        have hcut := cut_none A1 k1 (p.bytes.take n) w6 (HP5.out.2.2.2.1.toRds.take n) (by rw [List.length_take]; omega) hk2 (by rw [List.length_take]; omega) (cut_begin p hp HR.out n hnl)
        rw [List.length_take, Nat.min_eq_left (Nat.le_of_lt hnl)] at hcut
        refine (hcut).mono ?_; rintro e w7 ⟨rfl, hb7⟩
        have HP6 := Lib.hid (And.intro (HP5.out.1.belowAll hb7) (And.intro (HP5.out.2.1.below hb7 (Nat.le_refl _)) (And.intro (HP5.out.2.2.1.below hb7 (Nat.le_refl _)) (And.intro (HP5.out.2.2.2.1.below hb7 (Nat.le_refl _)) (And.intro (HP5.out.2.2.2.2.1.belowAll hb7) (And.intro (HP5.out.2.2.2.2.2.1.below hb7) (HP5.out.2.2.2.2.2.2.trans (hb7.mono HP5.out.2.2.2.2.2.2.size))))))))
        clear c5Q c5P HP5 hb7 hcut
        have c6Q := HP6.out.1.cell
        have c6P := HP6.out.2.2.2.2.1.cell
        have he := p.eqB_self
        go_wp2_with (refine wl_store_blk rfl 24 (.tmp 12) (.tmp 57) rfl w7.heap.size 24 zeroPod zeroPod rfl rfl (Blk.new _ _ _) rfl infoPod zeroPod_one ?_; intro w8 hZ8 hg8 hs8; have hb8 := ((Below.refl w7.heap.size w7).alloc (Nat.le_refl _) (.cells zeroPod 24)).grown hg8 (by simp) (by intro k hk; cases hk; exact Nat.le_refl _); have c8P := (HP6.out.2.2.2.2.1.belowAll hb8).cell; have c8Q := (HP6.out.1.belowAll hb8).cell; have HQ8 := Lib.hid hb8; clear c6Q c6P hZ8 hg8 hs8 hb8)
        have HP7 := Lib.hid (And.intro (HP6.out.1.belowAll HQ8.out) (And.intro (HP6.out.2.1.below HQ8.out (Nat.le_refl _)) (And.intro (HP6.out.2.2.1.below HQ8.out (Nat.le_refl _)) (And.intro (HP6.out.2.2.2.1.below HQ8.out (Nat.le_refl _)) (And.intro (HP6.out.2.2.2.2.1.belowAll HQ8.out) (And.intro (HP6.out.2.2.2.2.2.1.below HQ8.out) (HP6.out.2.2.2.2.2.2.trans (HQ8.out.mono HP6.out.2.2.2.2.2.2.size))))))))
        clear c8P c8Q HP6 HQ8
        have c7Q := HP7.out.1.cell
        have c7P := HP7.out.2.2.2.2.1.cell
        refine (same_any A5 A l l k5 c _ HP7.out.2.1.toRds HP7.out.2.2.2.2.2.1).mono ?_; rintro e w9 ⟨rfl, rfl⟩
        rw [beq_self_eq_true]
        go_wp2_with fail
        go_ret
        exact ⟨rfl, HP7.out.2.2.2.2.2.2⟩
end Go.Proofs.YtjngkmfkgbcjjaaDoor
