/- bilgelaw22.SweepExtra: of whatever containers, pods and number: how many go, that they are the first, that none that stays ran earlier. -/
import Derived.Test.YtfaklhdafpbkmaaLawSweepDead
import Derived.Test.YtfaklhdafpbkmaaLast
import Derived.BigQuiet
namespace Go.Proofs.Ytfaklhdafpbkmaa
open Go.RowKit

def LaterAfter (l : List Cn) (D : List ByteArray) : Prop := ∀ (i k : Nat) (hk : k < D.length) (_ : i < k), lastOf l (D[i]'(by omega)) ≤ lastOf l D[k]
theorem deadOf_later {l : List Cn} (hn : (l.map Cn.id).Nodup) (pods : List ByteArray) : LaterAfter l (deadOf l pods) := fun _ _ hk hik => deadOf_last hn pods hk hik
theorem last_q (l : List Cn) (s : ByteArray) (A : Option Addr) (c : Nat) (w : World) (n2 n3 : Nat) (hr : Rds w encC A l) (hm : l.length ≤ 9223372036854775807) :
    Calls Try.prog 28 #[.slice A l.length c, .string s] (w.drewN (n2 + n3)) fun e w' => e = .returned (.int .i64 (lastOf l s)) ∧ ∃ n, w' = w.drewN (n2 + n) :=
  (last_any l s A c _ (hr.drewN _) hm).mono fun _ _ h => ⟨h.1, n3, h.2.symm⟩
theorem goes_nat (n k : Nat) : goes n (k : Int) = n - k := by unfold goes; rw [if_neg (by omega)]; omega

set_option maxRecDepth 100000 in
set_option maxHeartbeats 8000000 in
theorem sweepExtra_any (l : List Cn) (pods : List ByteArray) (keep : UInt8) (A B : Option Addr) (c d : Nat) (w : World) (hr : Rds w encC A l) (hs : Rds w encS B pods) (hl : l.length ≤ 9223372036854775807) (hm : pods.length ≤ 9223372036854775807) :
    Calls Try.prog 5 #[.slice A l.length c, .slice B pods.length d, .int .u8 keep.toNat] w fun e w' => e = .returned (.bool true) ∧ Below w.heap.size w w' := by
  have HR := Lib.hid hr
  have HS := Lib.hid hs
  clear hr hs
  obtain ⟨K, hK⟩ : ∃ K : Nat, K = keep.toNat := ⟨_, rfl⟩
  have hK2 : K ≤ 255 := by have := keep.toNat_lt; omega
  rw [← hK]
  clear hK keep
  go_enter Try.func5, Try.ntmps5
  go_wp2_with fail
  refine (awake22_any _).mono ?_; rintro e w0 ⟨rfl, hb0⟩
  have HP0 := Lib.hid (And.intro (HR.out.below hb0) (And.intro (HS.out.below hb0) (hb0)))
  clear hb0 HR HS
  go_wp2_with fail
  refine (fit_b l A c _ HP0.out.1 hl).mono ?_; rintro e w1 ⟨rfl, hb1⟩
  have HP1 := Lib.hid (And.intro (HP0.out.1.below hb1) (And.intro (HP0.out.2.1.below hb1) (HP0.out.2.2.trans (hb1.mono HP0.out.2.2.size))))
  clear HP0 hb1
  cases hcond : fitB l
  case false =>
    clear hcond
    go_wp2_with fail
    refine (awake22_any _).mono ?_; rintro e w2 ⟨rfl, hb2⟩
    have HP2 := Lib.hid (And.intro (HP1.out.1.below hb2) (And.intro (HP1.out.2.1.below hb2) (HP1.out.2.2.trans (hb2.mono HP1.out.2.2.size))))
    clear HP1 hb2
    go_wp2_with fail
    go_ret
    exact ⟨rfl, HP2.out.2.2⟩
  case true =>
    have HF := Lib.hid hcond
    clear hcond
    go_wp2_with fail
    refine (names_b pods B d _ HP1.out.2.1 hm).mono ?_; rintro e w2 ⟨rfl, hb2⟩
    have HP2 := Lib.hid (And.intro (HP1.out.1.below hb2) (And.intro (HP1.out.2.1.below hb2) (HP1.out.2.2.trans (hb2.mono HP1.out.2.2.size))))
    clear HP1 hb2
    cases hcond : namesB pods
    case false =>
      clear hcond
      go_wp2_with fail
      refine (awake22_any _).mono ?_; rintro e w3 ⟨rfl, hb3⟩
      have HP3 := Lib.hid (And.intro (HP2.out.1.below hb3) (And.intro (HP2.out.2.1.below hb3) (HP2.out.2.2.trans (hb3.mono HP2.out.2.2.size))))
      clear HP2 hb3
      go_wp2_with fail
      go_ret
      exact ⟨rfl, HP3.out.2.2⟩
    case true =>
      have HN := Lib.hid hcond
      clear hcond
      have hl1 : l.length ≤ 100000 := by have := fitB_len HF.out; omega
      have hnd := Lib.hid (fit_nodup HF.out)
      have wK : IntKind.i64.wrap (K : Int) = (K : Int) := by rw [IntKind.wrap_i64]; omega
      have hkI : I64 (K : Int) := by unfold I64; omega
      go_wp2_with fail
      refine (deadD_any l pods A B c d _ HP2.out.1 HP2.out.2.1 hl1 hm hnd.out).mono ?_; rintro e w3 ⟨A3, c3, rfl, hO1, hb3⟩
      have HP3 := Lib.hid (And.intro (hO1.mono HP2.out.2.2.size) (And.intro (HP2.out.1.below hb3) (And.intro (HP2.out.2.1.below hb3) (HP2.out.2.2.trans (hb3.mono HP2.out.2.2.size)))))
      clear HP2 hb3 hO1
      go_wp2_with fail
      refine (extraD_any l pods (K : Int) A B c d _ HP3.out.2.1 HP3.out.2.2.1 hl1 hm hkI hnd.out).mono ?_; rintro e w4 ⟨A5, c5, rfl, hO1, hb4⟩
      have HP4 := Lib.hid (And.intro (hO1.mono HP3.out.2.2.2.size) (And.intro (HP3.out.1.below hb4 (Nat.le_refl _)) (And.intro (HP3.out.2.1.below hb4) (And.intro (HP3.out.2.2.1.below hb4) (HP3.out.2.2.2.trans (hb4.mono HP3.out.2.2.2.size))))))
      clear HP3 hb4 hO1
      have HL := Lib.hid (deadOf_later hnd.out pods)
      have hDl := deadOf_len l pods
      obtain ⟨D, hD⟩ : ∃ D, D = deadOf l pods := ⟨_, rfl⟩
      obtain ⟨n, hn⟩ : ∃ n : Nat, n = D.length - K := ⟨_, rfl⟩
      have hE0 : extraOf l pods (K : Int) = D.take n := by unfold extraOf; rw [goes_nat, hn, hD]
      have hE1 : (extraOf l pods (K : Int)).length = n := by rw [hE0, List.length_take]; omega
      have hDR := Lib.hid (And.intro (hD ▸ HP4.out.2.1.toRds) (And.intro (hE0 ▸ HP4.out.1.toRds) (And.intro HP4.out.2.2.1 HP4.out.2.2.2.2)))
      rw [hE1]
      rw [← hD] at hDl HL ⊢
      have hDn : n ≤ D.length := by omega
      clear hE0 hE1 hD HP4 HF HN hnd
      skip
      have dN : decide ((n : Int) = (n : Int)) = true := decide_eq_true rfl
      by_cases hKD : D.length ≤ K
      · have hn0 : n = 0 := by omega
        have d1 : decide ((D.length : Int) ≤ (K : Int)) = true := decide_eq_true (by omega)
        have d2 : decide ((K : Int) < (D.length : Int)) = false := decide_eq_false (by omega)
        have d3 : decide ((n : Int) = 0) = true := decide_eq_true (by omega)
        have d4 : (n : Int) = 0 := by omega
        go_wp2_with fail
        go_loopw [9] (fun i wr => i = .int .i64 0 ∧ wr = w4) (fun _ _ => 0)
        case atStart => exact ⟨rfl, rfl⟩
        case round =>
          obtain ⟨rfl, rfl⟩ := hrel
          go_wp2_with fail
          go_ret
          exact ⟨rfl, hDR.out.2.2.2⟩
      · have d1 : decide ((D.length : Int) ≤ (K : Int)) = false := decide_eq_false (by omega)
        have d2 : decide ((K : Int) < (D.length : Int)) = true := decide_eq_true (by omega)
        have d3 : IntKind.i64.wrap ((D.length : Int) - (K : Int)) = (n : Int) := by rw [IntKind.wrap_i64]; omega
        have d5 : (D.length : Int) - (K : Int) = (n : Int) := by omega
        have d7 : D.length - K = n := hn.symm
        clear hn
        go_wp2_with fail
        clear d1 d2 d3 d5 d7 hKD
        go_loopw [9] (fun i wr => ∃ k nn : Nat, k ≤ n ∧ i = .int .i64 k ∧ wr = w4.drewN nn) (fun i _ => n - (intOf i).toNat)
        case atStart => exact ⟨0, 0, by omega, rfl, rfl⟩
        case round =>
          obtain ⟨k, nn, hk, rfl, rfl⟩ := hrel
          by_cases hlt : k < n
          · have hkD : k < D.length := by omega
            obtain ⟨b1, o1, hA3, hb1, hc1⟩ := hDR.out.1.str hkD
            obtain ⟨b2, o2, hA5, hb2, hc2⟩ := hDR.out.2.1.str (show k < (D.take n).length by rw [List.length_take]; omega)
            rw [List.getElem_take] at hc2
            obtain ⟨t, ht⟩ : ∃ t, t = D[k] := ⟨_, rfl⟩
            have hlast : Hid (∀ (q : Nat) (hq : q < D.length), k < q → lastOf l t ≤ lastOf l D[q]) := Lib.hid (fun q hq hkq => by rw [ht]; exact HL.out k q hq hkq)
            rw [← ht] at hc1 hc2
            clear ht
            subst hA3
            subst hA5
            have dk : decide ((k : Int) < (n : Int)) = true := decide_eq_true (by omega)
            have dk2 : (k : Int) < (n : Int) := by omega
            have dk3 : (k : Int) < (D.length : Int) := by omega
            have dt : (t.toList == t.toList) = true := by simp
            have dt2 : (t.toList != t.toList) = false := by simp
            clear hk
            go_wp2_with fail
            go_quiet (fail)
            go_wp2_with fail
            go_loopw [10] (fun i wr => ∃ q n2 : Nat, n ≤ q ∧ q ≤ D.length ∧ i = .int .i64 q ∧ wr = w4.drewN n2) (fun i _ => D.length - (intOf i).toNat)
            case atStart => exact ⟨n, _, by omega, by omega, rfl, by first | rfl | exact World.drewN_drewN _ _ _⟩
            case round =>
              obtain ⟨q, n2, hq1, hq2, rfl, rfl⟩ := hrel
              by_cases hqlt : q < D.length
              · obtain ⟨b1', o1', e1, hb1', hc1'⟩ := hDR.out.1.str hqlt
                injection e1 with e1
                injection e1 with e1 e1'
                subst e1
                subst e1'
                obtain ⟨s, hs⟩ : ∃ s, s = D[q] := ⟨_, rfl⟩
                have hle : lastOf l t ≤ lastOf l s := by rw [hs]; exact hlast.out q hqlt (by omega)
                rw [← hs] at hc1'
                clear hs
                have dq : decide ((q : Int) < (D.length : Int)) = true := decide_eq_true (by omega)
                have dq2 : (q : Int) < (D.length : Int) := by omega
                have dl : decide (lastOf l s < lastOf l t) = false := decide_eq_false (by omega)
                have LS := Lib.hid (fun n3 : Nat => last_q l s A c w4 n2 n3 hDR.out.2.2.1 hl)
                have LT := Lib.hid (fun n3 : Nat => last_q l t A c w4 n2 n3 hDR.out.2.2.1 hl)
                clear hle hlast
                go_wp2_with fail
                go_quiet (first | (go_at_call 28; with_reducible first | exact (LS.out _) | exact (LT.out _)))
                go_wp2_with fail
                go_roundw
                case rel => exact ⟨q + 1, _, by omega, by omega, by go_num, rfl⟩
                case measure => simp [intOf]; omega
              · obtain rfl : q = D.length := by omega
                have dq : decide ((D.length : Int) < (D.length : Int)) = false := by simp
                go_wp2_with fail
                go_roundw
                case rel => exact ⟨k + 1, _, by omega, by go_num, rfl⟩
                case measure => simp [intOf]; omega
          · obtain rfl : k = n := by omega
            have dk : decide ((k : Int) < (k : Int)) = false := by simp
            go_wp2_with fail
            go_ret
            exact ⟨rfl, hDR.out.2.2.2.trans ((below_ofDrewN ⟨_, rfl⟩).mono hDR.out.2.2.2.size)⟩
end Go.Proofs.Ytfaklhdafpbkmaa
