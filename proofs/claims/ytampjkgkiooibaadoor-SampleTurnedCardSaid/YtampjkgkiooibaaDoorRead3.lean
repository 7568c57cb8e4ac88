/- bilgeref03: a number's parts, its kind, and what is read of it. -/
import Derived.Test.YtampjkgkiooibaaDoorNumPlain
import Derived.WalkLawsBesides
namespace Go.Proofs.YtampjkgkiooibaaDoor
open Go.RowKit

theorem parts_any {b : Nat} {s : Bool} {e m : Nat} (hb : b < 18446744073709551616) (hs : sgB b = s) (he : exN b = e) (hm : frN b = m) (w : World) :
    Calls Tryd.prog 36 #[.float .f64 b] w fun x w' => x = .returned (.tuple #[.bool s, .int .i64 e, .int .u64 m]) ∧ w = w' := by
  subst hs he hm
  obtain ⟨q, hq⟩ : ∃ q : Nat, b / 4503599627370496 = q := ⟨_, rfl⟩
  have hq2 : exN b = q % 2048 := by unfold exN; rw [hq]
  have e1 : (b : Int).tdiv 4503599627370496 = (q : Int) := by rw [Int.tdiv_eq_ediv_of_nonneg (by omega)]; omega
  have e2 : IntKind.u64.wrap (q : Int) = (q : Int) := by unfold IntKind.wrap; simp [IntKind.bits, IntKind.signed]; omega
  have e3 : (q : Int).tmod 2048 = (exN b : Int) := by rw [Int.tmod_eq_emod_of_nonneg (by omega), hq2]; omega
  have e4 : IntKind.u64.wrap (exN b : Int) = (exN b : Int) := by have := exN_lt b; unfold IntKind.wrap; simp [IntKind.bits, IntKind.signed]; omega
  have e5 : IntKind.i64.wrap (exN b : Int) = (exN b : Int) := by have := exN_lt b; rw [IntKind.wrap_i64]; omega
  have e6 : (b : Int).tmod 4503599627370496 = (frN b : Int) := by rw [Int.tmod_eq_emod_of_nonneg (by omega)]; unfold frN; omega
  have e7 : IntKind.u64.wrap (frN b : Int) = (frN b : Int) := by have := frN_lt b; unfold IntKind.wrap; simp [IntKind.bits, IntKind.signed]; omega
  have e8 : decide ((9223372036854775808 : Int) ≤ (b : Int)) = sgB b := by unfold sgB; by_cases h : 9223372036854775808 ≤ b <;> simp [h] <;> omega
  have e9 : decide (9223372036854775808 ≤ b) = sgB b := rfl
  clear hq hq2
  have hx : ∀ (W : World), Sem.run Tryd.prog (callFunc 37 #[.float .f64 b]) W = .ok (.value (.int .u64 (b : Int))) W := fun W => by
    rw [run_callFunc_extern (e := Extern.MathFloatBits.float64bits) Tryd.func37 (by kernel_rfl) (by kernel_rfl) (by kernel_rfl) (by kernel_rfl)]
    rfl
  have HX := Lib.hid hx
  clear hx
  go_enter Tryd.func36, Tryd.ntmps36
  go_wp2_with fail
  rw [HX.out]
  go_wp2_with fail
  exact bodyPost_ret (v := .tuple #[.bool (sgB b), .int .i64 (exN b), .int .u64 (frN b)]) (by simp [results, Tryd.results36]) rfl ⟨rfl, rfl⟩
set_option maxHeartbeats 2000000 in
theorem kindP_any {b : Nat} {s : Bool} {e m : Nat} {v : Int} (hb : b < 18446744073709551616) (hs : sgB b = s) (he : exN b = e) (hm : frN b = m) (hv : kindD s e m = v) (w : World) :
    Calls Tryd.prog 22 #[.float .f64 b] w fun x w' => x = .returned (.int .i64 v) ∧ w = w' := by
  have HP := Lib.hid (parts_any hb hs he hm w)
  have HV := Lib.hid hv
  clear hs he hm hv hb
  by_cases h1 : e = 2047
  · have b1 : ((e : Int) == 2047) = true := by rw [h1]; rfl
    have b0 : ((e : Int) == 0) = false := by rw [h1]; rfl
    by_cases h2 : 0 < m
    · have d2 : decide (0 < m) = true := decide_eq_true h2
      have d3 : decide ((0 : Int) < (m : Int)) = true := decide_eq_true (by omega)
      · obtain rfl : (1 : Int) = v := by rw [← HV.out]; unfold kindD; simp [h1, h2]
        clear HV
        go_enter Tryd.func22, Tryd.ntmps22
        go_wp2_with fail
        refine HP.out.mono ?_; rintro x w1 ⟨rfl, rfl⟩
        go_wp2_with fail
        go_ret
        exact ⟨rfl, rfl⟩
    · have d2 : decide (0 < m) = false := decide_eq_false h2
      have d3 : decide ((0 : Int) < (m : Int)) = false := decide_eq_false (by omega)
      cases s
      · obtain rfl : (7 : Int) = v := by rw [← HV.out]; unfold kindD; simp [h1, h2]
        clear HV
        go_enter Tryd.func22, Tryd.ntmps22
        go_wp2_with fail
        refine HP.out.mono ?_; rintro x w1 ⟨rfl, rfl⟩
        go_wp2_with fail
        go_ret
        exact ⟨rfl, rfl⟩
      · obtain rfl : (2 : Int) = v := by rw [← HV.out]; unfold kindD; simp [h1, h2]
        clear HV
        go_enter Tryd.func22, Tryd.ntmps22
        go_wp2_with fail
        refine HP.out.mono ?_; rintro x w1 ⟨rfl, rfl⟩
        go_wp2_with fail
        go_ret
        exact ⟨rfl, rfl⟩
  · have b1 : ((e : Int) == 2047) = false := by rw [beq_eq_false_iff_ne]; omega
    by_cases h0 : e = 0
    · have b0 : ((e : Int) == 0) = true := by rw [h0]; rfl
      by_cases h2 : m = 0
      · have d2 : ((m : Int) == 0) = true := by rw [h2]; rfl
        cases s
        · obtain rfl : (5 : Int) = v := by rw [← HV.out]; unfold kindD; simp [h0, h2]
          clear HV
          go_enter Tryd.func22, Tryd.ntmps22
          go_wp2_with fail
          refine HP.out.mono ?_; rintro x w1 ⟨rfl, rfl⟩
          go_wp2_with fail
          go_ret
          exact ⟨rfl, rfl⟩
        · obtain rfl : (4 : Int) = v := by rw [← HV.out]; unfold kindD; simp [h0, h2]
          clear HV
          go_enter Tryd.func22, Tryd.ntmps22
          go_wp2_with fail
          refine HP.out.mono ?_; rintro x w1 ⟨rfl, rfl⟩
          go_wp2_with fail
          go_ret
          exact ⟨rfl, rfl⟩
      · have d2 : ((m : Int) == 0) = false := by rw [beq_eq_false_iff_ne]; omega
        cases s
        · obtain rfl : (6 : Int) = v := by rw [← HV.out]; unfold kindD; simp [h0, h2]
          clear HV
          go_enter Tryd.func22, Tryd.ntmps22
          go_wp2_with fail
          refine HP.out.mono ?_; rintro x w1 ⟨rfl, rfl⟩
          go_wp2_with fail
          go_ret
          exact ⟨rfl, rfl⟩
        · obtain rfl : (3 : Int) = v := by rw [← HV.out]; unfold kindD; simp [h0, h2]
          clear HV
          go_enter Tryd.func22, Tryd.ntmps22
          go_wp2_with fail
          refine HP.out.mono ?_; rintro x w1 ⟨rfl, rfl⟩
          go_wp2_with fail
          go_ret
          exact ⟨rfl, rfl⟩
    · have b0 : ((e : Int) == 0) = false := by rw [beq_eq_false_iff_ne]; omega
      cases s
      · obtain rfl : (6 : Int) = v := by rw [← HV.out]; unfold kindD; simp [h1, h0]
        clear HV
        go_enter Tryd.func22, Tryd.ntmps22
        go_wp2_with fail
        refine HP.out.mono ?_; rintro x w1 ⟨rfl, rfl⟩
        go_wp2_with fail
        go_ret
        exact ⟨rfl, rfl⟩
      · obtain rfl : (3 : Int) = v := by rw [← HV.out]; unfold kindD; simp [h1, h0]
        clear HV
        go_enter Tryd.func22, Tryd.ntmps22
        go_wp2_with fail
        refine HP.out.mono ?_; rintro x w1 ⟨rfl, rfl⟩
        go_wp2_with fail
        go_ret
        exact ⟨rfl, rfl⟩
theorem kindV_any {b : Nat} {v : Int} (hb : b < 18446744073709551616) (hv : kindN b = v) (w : World) :
    Calls Tryd.prog 22 #[.float .f64 b] w fun x w' => x = .returned (.int .i64 v) ∧ w = w' := kindP_any hb rfl rfl rfl hv w
/-- the two loops: halved to 1075, doubled down to it -/
theorem fix_eq (e m : Nat) : (m + 4503599627370496) / 2 ^ (1075 - e) * 2 ^ (e - 1075) = fixN e m := by
  unfold fixN
  split
  · rw [show e - 1075 = 0 by omega]; simp
  · rw [show 1075 - e = 0 by omega]; simp
theorem half_step (X j : Nat) : X / 2 ^ j / 2 = X / 2 ^ (j + 1) := by rw [Nat.div_div_eq_div_mul, Nat.pow_succ]
theorem dbl_step (X j : Nat) : X * 2 ^ j * 2 = X * 2 ^ (j + 1) := by rw [Nat.mul_assoc, Nat.pow_succ]
theorem dbl_bd {X j : Nat} (hX : X < 9007199254740992) (hj : j ≤ 10) : X * 2 ^ j ≤ 9223372036854775807 := by
  have h2 : 2 ^ j ≤ 2 ^ 10 := Nat.pow_le_pow_right (by decide) hj
  have h3 : X * 2 ^ j ≤ X * 2 ^ 10 := Nat.mul_le_mul_left _ h2
  have h4 : (2 : Nat) ^ 10 = 1024 := by decide
  rw [h4] at h3
  have h6 : X ≤ 9007199254740991 := by omega
  exact Nat.le_trans h3 (Nat.le_trans (Nat.mul_le_mul_right _ h6) (by decide))
def okN (k : Int) : Bool := decide (k ≠ 1)
set_option maxHeartbeats 4000000 in
theorem readP_any {b : Nat} {s : Bool} {e m : Nat} {v : Int} {ok : Bool} (hb : b < 18446744073709551616) (hs : sgB b = s) (he : exN b = e) (hm : frN b = m) (hv : readD s e m = v) (hok : okN (kindD s e m) = ok) (w : World) :
    Calls Tryd.prog 23 #[.float .f64 b] w fun x w' => x = .returned (.tuple #[.int .i64 v, .bool ok]) ∧ w = w' := by
  have hm2 : m < 4503599627370496 := by rw [← hm]; exact frN_lt b
  obtain ⟨k, hk⟩ : ∃ k, kindD s e m = k := ⟨_, rfl⟩
  rw [hk] at hok
  have hk0 : 0 ≤ k ∧ k ≤ 7 := by
    rw [← hk]; unfold kindD; repeat' split
    all_goals omega
  have HK := Lib.hid (fun W => kindP_any hb hs he hm hk W)
  have HP := Lib.hid (fun W => parts_any hb hs he hm W)
  have HV := Lib.hid (show readD s e m = v from hv)
  clear hs he hm hv hb
  by_cases k1 : k = 1
  · obtain rfl : (0 : Int) = v := by rw [← HV.out]; unfold readD; rw [hk, k1]; rfl
    obtain rfl : false = ok := by rw [← hok, k1]; rfl
    have b1 : (k == 1) = true := by rw [k1]; rfl
    clear HV HP hk hok k1 hk0
    go_enter Tryd.func23, Tryd.ntmps23
    go_wp2_with fail
    refine (HK.out _).mono ?_; rintro x w1 ⟨rfl, rfl⟩
    go_wp2_with fail
    exact bodyPost_ret (v := .tuple #[.int .i64 0, .bool false]) (by simp [results, Tryd.results23]) rfl ⟨rfl, rfl⟩
  · obtain rfl : true = ok := by rw [← hok]; unfold okN; exact (decide_eq_true k1).symm
    have b1 : (k == 1) = false := by rw [beq_eq_false_iff_ne]; exact k1
    clear hok
    by_cases k5 : k ≤ 5
    · obtain rfl : (0 : Int) = v := by rw [← HV.out]; unfold readD; rw [hk, if_pos k5]
      have d5 : decide (k ≤ 5) = true := decide_eq_true k5
      clear HV HP hk k1 k5 hk0
      go_enter Tryd.func23, Tryd.ntmps23
      go_wp2_with fail
      refine (HK.out _).mono ?_; rintro x w1 ⟨rfl, rfl⟩
      go_wp2_with fail
      exact bodyPost_ret (v := .tuple #[.int .i64 0, .bool true]) (by simp [results, Tryd.results23]) rfl ⟨rfl, rfl⟩
    · have d5 : decide (k ≤ 5) = false := decide_eq_false k5
      have HV2 := Lib.hid (show (if 1086 ≤ e then 9223372036854775807 else if e < 1023 then 0 else (fixN e m : Int)) = v by rw [← HV.out]; unfold readD; rw [hk, if_neg k5])
      clear HV hk k1 k5 hk0
      by_cases e1 : 1086 ≤ e
      · obtain rfl : (9223372036854775807 : Int) = v := by rw [← HV2.out, if_pos e1]
        have d6 : decide ((1086 : Int) ≤ (e : Int)) = true := decide_eq_true (by omega)
        have d7 : decide (1086 ≤ e) = true := decide_eq_true e1
        clear HV2 e1
        go_enter Tryd.func23, Tryd.ntmps23
        go_wp2_with fail
        refine (HK.out _).mono ?_; rintro x w1 ⟨rfl, rfl⟩
        go_wp2_with fail
        refine (HP.out _).mono ?_; rintro x w2 ⟨rfl, rfl⟩
        go_wp2_with fail
        exact bodyPost_ret (v := .tuple #[.int .i64 9223372036854775807, .bool true]) (by simp [results, Tryd.results23]) rfl ⟨rfl, rfl⟩
      · have d6 : decide ((1086 : Int) ≤ (e : Int)) = false := decide_eq_false (by omega)
        have d7 : decide (1086 ≤ e) = false := decide_eq_false e1
        by_cases e2 : e < 1023
        · obtain rfl : (0 : Int) = v := by rw [← HV2.out, if_neg e1, if_pos e2]
          have d8 : decide ((e : Int) < 1023) = true := decide_eq_true (by omega)
          have d9 : decide (e < 1023) = true := decide_eq_true e2
          clear HV2 e1 e2
          go_enter Tryd.func23, Tryd.ntmps23
          go_wp2_with fail
          refine (HK.out _).mono ?_; rintro x w1 ⟨rfl, rfl⟩
          go_wp2_with fail
          refine (HP.out _).mono ?_; rintro x w2 ⟨rfl, rfl⟩
          go_wp2_with fail
          exact bodyPost_ret (v := .tuple #[.int .i64 0, .bool true]) (by simp [results, Tryd.results23]) rfl ⟨rfl, rfl⟩
        · have d8 : decide ((e : Int) < 1023) = false := decide_eq_false (by omega)
          have d9 : decide (e < 1023) = false := decide_eq_false e2
          have HF := Lib.hid (show (fixN e m : Int) = v by rw [← HV2.out, if_neg e1, if_neg e2])
          clear HV2
          have hwX : IntKind.u64.wrap ((m : Int) + 4503599627370496) = ((m + 4503599627370496 : Nat) : Int) := by unfold IntKind.wrap; simp [IntKind.bits, IntKind.signed]; omega
          obtain ⟨X, hX⟩ : ∃ X, m + 4503599627370496 = X := ⟨_, rfl⟩
          rw [hX] at hwX
          go_enter Tryd.func23, Tryd.ntmps23
          go_wp2_with fail
          refine (HK.out _).mono ?_; rintro x w1 ⟨rfl, rfl⟩
          go_wp2_with fail
          refine (HP.out _).mono ?_; rintro x w2 ⟨rfl, rfl⟩
          go_wp2_with fail
          have hE : e < 1086 := by omega
          have hX2 : X < 9007199254740992 := by omega
          have HFX := Lib.hid (show X / 2 ^ (1075 - e) * 2 ^ (e - 1075) = fixN e m by rw [← hX]; exact fix_eq e m)
          clear hX hwX hm2 e1 e2 d6 d7 d8 d9 d5 b1 HK HP
          have hX0 : X / 2 ^ 0 = X := by simp
          go_loopw [8, 6] (fun x i wr => ∃ (j Y n : Nat), j ≤ 1075 - e ∧ n = e + j ∧ Y = X / 2 ^ j ∧ x = .int .u64 Y ∧ i = .int .i64 n ∧ w = wr) (fun x i _ => (1075 - intOf i).toNat)
          case atStart => exact ⟨0, X, e, by omega, rfl, hX0.symm, rfl, rfl, rfl⟩
          case round =>
            obtain ⟨j, Y, n, hj, hn, hY, rfl, rfl, rfl⟩ := hrel
            have HY := Lib.hid hY
            clear hX0
            by_cases hlt : n < 1075
            · have dk : decide ((n : Int) < 1075) = true := decide_eq_true (by omega)
              have dk2 : decide (n < 1075) = true := decide_eq_true hlt
              have hYX : Y ≤ X := by rw [hY]; exact Nat.div_le_self _ _
              have HH := Lib.hid (show Y / 2 = X / 2 ^ (j + 1) by rw [hY]; exact half_step X j)
              clear hY
              obtain ⟨Y2, hY2⟩ : ∃ Y2, Y / 2 = Y2 := ⟨_, rfl⟩
              have e1 : (Y : Int).tdiv 2 = (Y2 : Int) := by rw [Int.tdiv_eq_ediv_of_nonneg (by omega)]; omega
              have e2 : IntKind.u64.wrap (Y2 : Int) = (Y2 : Int) := by unfold IntKind.wrap; simp [IntKind.bits, IntKind.signed]; omega
              have HH2 := Lib.hid (show Y2 = X / 2 ^ (j + 1) by rw [← hY2]; exact HH.out)
              have HN := Lib.hid hn
              have hn3 : n ≤ 2000 := by omega
              clear hY2 HH hYX hn
              go_wp2_with fail
              go_roundw
              case rel => exact ⟨j + 1, Y2, n + 1, by have := HN.out; omega, by have := HN.out; omega, HH2.out, rfl, by go_num, by first | rfl | trivial⟩
              case measure => simp [intOf]; omega
            · have dk : decide ((n : Int) < 1075) = false := decide_eq_false (by omega)
              have dk2 : decide (n < 1075) = false := decide_eq_false hlt
              have HFY := Lib.hid (show Y * 2 ^ (e - 1075) = fixN e m by rw [hY, ← HFX.out, show j = 1075 - e by omega])
              have hYX : Y < 9007199254740992 := by have : Y ≤ X := by rw [hY]; exact Nat.div_le_self _ _
                                                    omega
              have hn2 : n = 1075 + (e - 1075) := by omega
              have HN2 := Lib.hid hn2
              clear hY HY HFX hj hn hX2 hn2
              go_wp2_with fail
              have hY0 : Y = Y * 2 ^ 0 := by simp
              go_loopw [8, 6] (fun x i wr => ∃ (j Z : Nat) (q : Int), j ≤ e - 1075 ∧ q + j = 1075 + (e - 1075 : Nat) ∧ Z = Y * 2 ^ j ∧ x = .int .u64 Z ∧ i = .int .i64 q ∧ w = wr) (fun x i _ => (intOf i).toNat)
              case atStart => exact ⟨0, Y, n, by omega, by have := HN2.out; omega, hY0, rfl, rfl, by first | rfl | trivial⟩
              case round =>
                obtain ⟨j, Z, q, hj, hq, hZ, rfl, rfl, rfl⟩ := hrel
                clear hY0 dk dk2
                by_cases hgt : 1075 < q
                · have dk : decide (1075 < q) = true := decide_eq_true hgt
                  have HH := Lib.hid (show Z * 2 = Y * 2 ^ (j + 1) by rw [hZ]; exact dbl_step Y j)
                  have hb := dbl_bd hYX (show j + 1 ≤ 10 by omega)
                  rw [← HH.out] at hb
                  clear hZ
                  obtain ⟨Z2, hZ2⟩ : ∃ Z2, Z * 2 = Z2 := ⟨_, rfl⟩
                  have e2 : IntKind.u64.wrap ((Z : Int) * 2) = (Z2 : Int) := by unfold IntKind.wrap; simp [IntKind.bits, IntKind.signed]; omega
                  have e3 : IntKind.i64.wrap (q - 1) = q - 1 := by rw [IntKind.wrap_i64]; omega
                  have HH2 := Lib.hid (show Z2 = Y * 2 ^ (j + 1) by rw [← hZ2]; exact HH.out)
                  have HQ := Lib.hid hq
                  clear hZ2 hb HH hq
                  go_wp2_with fail
                  go_roundw
                  case rel => exact ⟨j + 1, Z2, q - 1, by have := HQ.out; omega, by have := HQ.out; omega, HH2.out, rfl, rfl, by first | rfl | trivial⟩
                  case measure => simp [intOf]; omega
                · have dk : decide (1075 < q) = false := decide_eq_false hgt
                  have hj2 : j = e - 1075 := by omega
                  have HZ := Lib.hid (show (Z : Int) = v by rw [← HF.out, hZ, hj2, HFY.out])
                  have hb := dbl_bd hYX (show j ≤ 10 by omega)
                  rw [← hZ] at hb
                  clear hZ
                  have e3 : IntKind.i64.wrap (Z : Int) = (Z : Int) := by rw [IntKind.wrap_i64]; omega
                  clear hq hj2 hb hj
                  go_wp2_with fail
                  exact bodyPost_ret (v := .tuple #[.int .i64 Z, .bool true]) (by simp [results, Tryd.results23]) rfl ⟨by rw [HZ.out], by first | rfl | trivial⟩
theorem readV_any {b : Nat} {v : Int} {ok : Bool} (hb : b < 18446744073709551616) (hv : readN b = v) (hok : okN (kindN b) = ok) (w : World) :
    Calls Tryd.prog 23 #[.float .f64 b] w fun x w' => x = .returned (.tuple #[.int .i64 v, .bool ok]) ∧ w = w' := readP_any hb rfl rfl rfl hv hok w
end Go.Proofs.YtampjkgkiooibaaDoor
