/- edge.Kind and edge.Read: by the number's bits, as the document says. -/
import Derived.Test.YtampjkgkiooibaaDoorEdgePlain
import Derived.Test.YtampjkgkiooibaaDoorRead3
import Derived.WalkLawsBesides
namespace Go.Proofs.YtampjkgkiooibaaDoor
open Go.RowKit

theorem signbit_any {b : Nat} {v : Bool} (hb : b < 18446744073709551616) (hv : sgB b = v) (w : World) :
    Calls Tryd.prog 58 #[.float .f64 b] w fun x w' => x = .returned (.bool v) ∧ w = w' := by
  subst hv
  have hx : ∀ (W : World), Sem.run Tryd.prog (callFunc 37 #[.float .f64 b]) W = .ok (.value (.int .u64 (b : Int))) W := fun W => by
    rw [run_callFunc_extern (e := Extern.MathFloatBits.float64bits) Tryd.func37 (by kernel_rfl) (by kernel_rfl) (by kernel_rfl) (by kernel_rfl)]
    rfl
  have HX := Lib.hid hx
  clear hx
  have e1 : decide (wrap64 (b : Int) < 0) = sgB b := by
    unfold sgB wrap64
    by_cases h : 9223372036854775808 ≤ b
    · rw [decide_eq_true h]; exact decide_eq_true (by omega)
    · rw [decide_eq_false h]; exact decide_eq_false (by omega)
  go_enter Tryd.func58, Tryd.ntmps58
  go_wp2_with fail
  rw [HX.out]
  go_wp2_with fail
  go_ret
  exact ⟨rfl, rfl⟩
theorem isInf_pos {b : Nat} {v : Bool} (hb : b < 18446744073709551616) (hv : (kindN b == 7) = v) (w : World) :
    Calls Tryd.prog 57 #[.float .f64 b, .int .i64 1] w fun x w' => x = .returned (.bool v) ∧ w = w' := by
  have e1 : (FloatKind.f64.format.order b 9218868437227405311 == some Ordering.gt) = v := by rw [← hv]; exact order_max hb
  clear hv hb
  go_enter Tryd.func57, Tryd.ntmps57
  go_wp2_with fail
  go_ret
  exact ⟨rfl, rfl⟩
theorem isInf_neg {b : Nat} {v : Bool} (hb : b < 18446744073709551616) (hv : (kindN b == 2) = v) (w : World) :
    Calls Tryd.prog 57 #[.float .f64 b, .int .i64 (-1)] w fun x w' => x = .returned (.bool v) ∧ w = w' := by
  have e1 : (FloatKind.f64.format.order (Op.negFloat .f64 b) 9218868437227405311 == some Ordering.gt) = v := by rw [← hv, ← kind_neg hb]; exact order_max (neg_fields hb).1
  clear hv hb
  have e0 : Sem.run Tryd.prog (Op.unary .neg (.float .f64 b)) w = .ok (.float .f64 (Op.negFloat .f64 b)) w := rfl
  go_enter Tryd.func57, Tryd.ntmps57
  go_wp2_with fail
  go_ret
  exact ⟨rfl, rfl⟩
theorem floor_any {b r : Nat} (hn : kindN b ≠ 1) (hb : b < 18446744073709551616) (hr : Ieee.double.write ((Ieee.double.read b).integral .down) = r) (w : World) :
    Calls Tryd.prog 44 #[.float .f64 b] w fun x w' => x = .returned (.float .f64 r) ∧ w = w' := by
  have hx : ∀ (W : World), Sem.run Tryd.prog (callFunc 59 #[.float .f64 b]) W = .ok (.value (.float .f64 r)) W := fun W => by
    rw [run_callFunc_extern (e := Extern.MathFloor.toIntegral "math.archFloor" .down) Tryd.func59 (by kernel_rfl) (by kernel_rfl) (by kernel_rfl) (by kernel_rfl)]
    have h : Extern.MathFloor.toIntegral "math.archFloor" .down #[.float .f64 b] = Extern.MathFloor.toIntegral.match_1 (fun _ => Sem Value) (FloatKind.f64.decode b) _ _ := rfl
    have hd : FloatKind.f64.decode b = Ieee.double.read b := rfl
    rw [h, hd, ← hr, read_dat hb]
    unfold kindN kindD at hn
    unfold datD
    by_cases h0 : exN b = 0
    · rw [if_pos h0]; rfl
    · rw [if_neg h0]
      by_cases h1 : exN b < 2047
      · rw [if_pos h1]; rfl
      · rw [if_neg h1]
        have h2 : exN b = 2047 := by have := exN_lt b; omega
        rw [if_pos h2] at hn
        by_cases h3 : frN b = 0
        · rw [if_pos h3]; rfl
        · exfalso; rw [if_pos (by omega)] at hn; exact hn rfl
  have HX := Lib.hid hx
  clear hx
  go_enter Tryd.func44, Tryd.ntmps44
  go_wp2_with fail
  rw [HX.out]
  go_wp2_with fail
  go_ret
  exact ⟨rfl, rfl⟩
set_option maxHeartbeats 4000000 in
theorem edgeKind_any {b : Nat} {v : Int} (hb : b < 18446744073709551616) (hv : kindN b = v) (w : World) :
    Calls Tryd.prog 43 #[.float .f64 b] w fun x w' => x = .returned (.int .i64 v) ∧ w = w' := by
  have o1 := order_self b hb
  have o2 := order_zero b hb
  have hs := @sign_of b
  have hc := kind_cases b
  rw [hv] at o1 o2 hs hc
  rcases hc with rfl | rfl | rfl | rfl | rfl | rfl | rfl
  all_goals
    simp only [Int.reduceEq, Int.reduceLE, if_true, if_false, or_true, or_false, false_implies, true_implies] at o1 o2 hs
  all_goals
    have q1 : ∀ o : Option Ordering, Ieee.double.order b b = o → FloatKind.f64.format.order b b = o := fun o h => h
    have q2 : ∀ o : Option Ordering, Ieee.double.order b 0 = o → FloatKind.f64.format.order b 0 = o := fun o h => h
    replace o1 := q1 _ o1
    replace o2 := q2 _ o2
    clear q1 q2
  · clear hs
    go_enter Tryd.func43, Tryd.ntmps43
    go_wp2_with fail
    go_ret
    exact ⟨rfl, rfl⟩
  · clear hs
    have HI := Lib.hid (fun W => isInf_neg (v := true) hb (by rw [hv]; rfl) W)
    clear hv
    go_enter Tryd.func43, Tryd.ntmps43
    go_wp2_with fail
    refine (HI.out _).mono ?_; rintro x w' ⟨rfl, rfl⟩
    go_wp2_with fail
    go_ret
    exact ⟨rfl, rfl⟩
  · clear hs
    have HI := Lib.hid (fun W => isInf_neg (v := false) hb (by rw [hv]; rfl) W)
    have HJ := Lib.hid (fun W => isInf_pos (v := false) hb (by rw [hv]; rfl) W)
    clear hv
    go_enter Tryd.func43, Tryd.ntmps43
    go_wp2_with fail
    refine (HI.out _).mono ?_; rintro x w' ⟨rfl, rfl⟩
    go_wp2_with fail
    refine (HJ.out _).mono ?_; rintro x w' ⟨rfl, rfl⟩
    go_wp2_with fail
    go_ret
    exact ⟨rfl, rfl⟩
  · have HI := Lib.hid (fun W => isInf_neg (v := false) hb (by rw [hv]; rfl) W)
    have HJ := Lib.hid (fun W => isInf_pos (v := false) hb (by rw [hv]; rfl) W)
    have HS := Lib.hid (fun W => signbit_any (v := true) hb hs W)
    clear hv hs
    go_enter Tryd.func43, Tryd.ntmps43
    go_wp2_with fail
    refine (HI.out _).mono ?_; rintro x w' ⟨rfl, rfl⟩
    go_wp2_with fail
    refine (HJ.out _).mono ?_; rintro x w' ⟨rfl, rfl⟩
    go_wp2_with fail
    refine (HS.out _).mono ?_; rintro x w' ⟨rfl, rfl⟩
    go_wp2_with fail
    go_ret
    exact ⟨rfl, rfl⟩
  · have HI := Lib.hid (fun W => isInf_neg (v := false) hb (by rw [hv]; rfl) W)
    have HJ := Lib.hid (fun W => isInf_pos (v := false) hb (by rw [hv]; rfl) W)
    have HS := Lib.hid (fun W => signbit_any (v := false) hb hs W)
    clear hv hs
    go_enter Tryd.func43, Tryd.ntmps43
    go_wp2_with fail
    refine (HI.out _).mono ?_; rintro x w' ⟨rfl, rfl⟩
    go_wp2_with fail
    refine (HJ.out _).mono ?_; rintro x w' ⟨rfl, rfl⟩
    go_wp2_with fail
    refine (HS.out _).mono ?_; rintro x w' ⟨rfl, rfl⟩
    go_wp2_with fail
    go_ret
    exact ⟨rfl, rfl⟩
  · clear hs
    have HI := Lib.hid (fun W => isInf_neg (v := false) hb (by rw [hv]; rfl) W)
    have HJ := Lib.hid (fun W => isInf_pos (v := false) hb (by rw [hv]; rfl) W)
    clear hv
    go_enter Tryd.func43, Tryd.ntmps43
    go_wp2_with fail
    refine (HI.out _).mono ?_; rintro x w' ⟨rfl, rfl⟩
    go_wp2_with fail
    refine (HJ.out _).mono ?_; rintro x w' ⟨rfl, rfl⟩
    go_wp2_with fail
    go_ret
    exact ⟨rfl, rfl⟩
  · clear hs
    have HI := Lib.hid (fun W => isInf_neg (v := false) hb (by rw [hv]; rfl) W)
    have HJ := Lib.hid (fun W => isInf_pos (v := true) hb (by rw [hv]; rfl) W)
    clear hv
    go_enter Tryd.func43, Tryd.ntmps43
    go_wp2_with fail
    refine (HI.out _).mono ?_; rintro x w' ⟨rfl, rfl⟩
    go_wp2_with fail
    refine (HJ.out _).mono ?_; rintro x w' ⟨rfl, rfl⟩
    go_wp2_with fail
    go_ret
    exact ⟨rfl, rfl⟩
/-- a number above nought, beneath 2^63, read by its floor -/
theorem floor_conv {b : Nat} (hb : b < 18446744073709551616) (hk : 6 ≤ kindN b) (he : exN b < 1086) (W : World) :
    Sem.run Tryd.prog (convert 22 3 (.float .f64 (Ieee.double.write ((Ieee.double.read b).integral .down)))) W = .ok (.int .i64 (readN b)) W := by
  have hs : sgB b = false := by
    unfold kindN kindD at hk
    cases hsb : sgB b
    · rfl
    · rw [hsb] at hk
      split at hk
      · split at hk
        · omega
        · simp at hk
      · split at hk <;> simp at hk
  have hf := floor_of (frN_lt b) he
  rw [read_dat hb, hs]
  have hv : readN b = if exN b < 1023 then 0 else (fixN (exN b) (frN b) : Int) := by
    unfold readN readD
    rw [if_neg (by unfold kindN at hk; omega), if_neg (by omega)]
  have hbd := readN_bd b
  rw [← hv] at hf
  refine run_convert_float_int W 22 3 .f64 .i64 _ _ (by kernel_rfl) (by kernel_rfl) ?_
  unfold floatToIntVal
  have hd : ∀ x, FloatKind.f64.decode x = Ieee.double.read x := fun _ => rfl
  rw [hd, hf]
  show (if IntKind.i64.min ≤ readN b ∧ readN b ≤ IntKind.i64.max then some (readN b) else none) = some (readN b)
  have e1 : IntKind.i64.min = -9223372036854775808 := rfl
  have e2 : IntKind.i64.max = 9223372036854775807 := rfl
  rw [e1, e2, if_pos ⟨by omega, by omega⟩]
set_option maxHeartbeats 4000000 in
theorem edgeRead_any {b : Nat} {v : Int} {ok : Bool} (hb : b < 18446744073709551616) (hv : readN b = v) (hok : okN (kindN b) = ok) (w : World) :
    Calls Tryd.prog 38 #[.float .f64 b] w fun x w' => x = .returned (.tuple #[.int .i64 v, .bool ok]) ∧ w = w' := by
  obtain ⟨k, hk⟩ : ∃ k, kindN b = k := ⟨_, rfl⟩
  have HK := Lib.hid (fun W => edgeKind_any hb hk W)
  have hc := kind_cases b
  rw [hk] at hok hc
  by_cases h5 : k ≤ 5
  · have hv0 : v = 0 := by rw [← hv]; unfold readN readD; unfold kindN at hk; rw [if_pos (by omega)]
    subst hv0
    by_cases h1 : k = 1
    · subst h1
      obtain rfl : false = ok := by rw [← hok]; rfl
      clear hok hv hk hc h5
      go_enter Tryd.func38, Tryd.ntmps38
      go_wp2_with fail
      refine (HK.out _).mono ?_; rintro x w' ⟨rfl, rfl⟩
      go_wp2_with fail
      exact bodyPost_ret (v := .tuple #[.int .i64 0, .bool false]) (by simp [results, Tryd.results38]) rfl ⟨rfl, rfl⟩
    · obtain rfl : true = ok := by rw [← hok]; unfold okN; exact (decide_eq_true h1).symm
      have d1 : (k == 1) = false := by rw [beq_eq_false_iff_ne]; exact h1
      have d5 : decide (k ≤ 5) = true := decide_eq_true h5
      clear hok hv hk hc h5 h1
      go_enter Tryd.func38, Tryd.ntmps38
      go_wp2_with fail
      refine (HK.out _).mono ?_; rintro x w' ⟨rfl, rfl⟩
      go_wp2_with fail
      exact bodyPost_ret (v := .tuple #[.int .i64 0, .bool true]) (by simp [results, Tryd.results38]) rfl ⟨rfl, rfl⟩
  · have d1 : (k == 1) = false := by rw [beq_eq_false_iff_ne]; omega
    have d5 : decide (k ≤ 5) = false := decide_eq_false h5
    obtain rfl : true = ok := by rw [← hok]; unfold okN; exact (decide_eq_true (by omega)).symm
    have hm := order_most b hb (by omega)
    by_cases he : exN b < 1086
    · rw [if_pos he] at hm
      have o1 : (FloatKind.f64.format.order b 4890909195324358656 == some Ordering.gt || FloatKind.f64.format.order b 4890909195324358656 == some Ordering.eq) = false := by
        have : FloatKind.f64.format.order b 4890909195324358656 = some .lt := hm
        rw [this]; rfl
      have HC := Lib.hid (fun W => floor_conv hb (by omega) he W)
      rw [hv] at HC
      have HF := Lib.hid (fun W => floor_any (by omega) hb rfl W)
      generalize Ieee.double.write ((Ieee.double.read b).integral .down) = r at *
      have hcw := HC.out w
      clear hok hv hk hc h5 hm he
      go_enter Tryd.func38, Tryd.ntmps38
      go_wp2_with fail
      refine (HK.out _).mono ?_; rintro x w' ⟨rfl, rfl⟩
      go_wp2_with fail
      refine (HF.out _).mono ?_; rintro x w' ⟨rfl, rfl⟩
      go_wp2_with fail
      exact bodyPost_ret (v := .tuple #[.int .i64 v, .bool true]) (by simp [results, Tryd.results38]) rfl ⟨rfl, rfl⟩
    · rw [if_neg he] at hm
      have o1 : (FloatKind.f64.format.order b 4890909195324358656 == some Ordering.gt || FloatKind.f64.format.order b 4890909195324358656 == some Ordering.eq) = true := by
        have : FloatKind.f64.format.order b 4890909195324358656 = _ := hm
        rw [this]; split <;> rfl
      obtain rfl : (9223372036854775807 : Int) = v := by
        rw [← hv]; unfold readN readD; unfold kindN at hk
        rw [if_neg (by omega), if_pos (by omega)]
      clear hok hv hk hc h5 hm he
      go_enter Tryd.func38, Tryd.ntmps38
      go_wp2_with fail
      refine (HK.out _).mono ?_; rintro x w' ⟨rfl, rfl⟩
      go_wp2_with fail
      exact bodyPost_ret (v := .tuple #[.int .i64 9223372036854775807, .bool true]) (by simp [results, Tryd.results38]) rfl ⟨rfl, rfl⟩
end Go.Proofs.YtampjkgkiooibaaDoor
