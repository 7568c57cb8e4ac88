/- bilgelaw22.SweepParts: of whatever containers and pods: each container is just one of a pod's, lost, dead. -/
import Derived.Test.YtfaklhdafpbkmaaPartsLaw
namespace Go.Proofs.Ytfaklhdafpbkmaa
open Go.RowKit

theorem has_v (l : List ByteArray) (s : ByteArray) (b : Bool) (hb : hasB l s = b) (A : Option Addr) (c : Nat) (w : World) (hr : Rds w encS A l) (hm : l.length ≤ 9223372036854775807) :
    Calls Try.prog 27 #[.slice A l.length c, .string s] w fun e w' => e = .returned (.bool b) ∧ w = w' :=
  (has_any l s A c w hr hm).mono fun _ _ h => ⟨by rw [h.1, hb], h.2⟩

set_option maxRecDepth 100000 in
set_option maxHeartbeats 8000000 in
theorem sweepParts_any (l : List Cn) (pods : List ByteArray) (A B : Option Addr) (c d : Nat) (w : World) (hr : Rds w encC A l) (hs : Rds w encS B pods) (hl : l.length ≤ 9223372036854775807) (hm : pods.length ≤ 9223372036854775807) :
    Calls Try.prog 4 #[.slice A l.length c, .slice B pods.length d] w fun e w' => e = .returned (.bool true) ∧ Below w.heap.size w w' := by
  have HR := Lib.hid hr
  have HS := Lib.hid hs
  clear hr hs
  go_enter Try.func4, Try.ntmps4
  go_wp2_with fail
  refine (awake22_any _).mono ?_; rintro e w0 ⟨rfl, hb0⟩
  have HP0 := Lib.hid (And.intro (HR.out.below hb0) (And.intro (HS.out.below hb0) (hb0)))
  clear hb0 HR HS
  go_wp2_with fail
  refine (fit_b l A c _ HP0.out.1 hl).mono ?_; rintro e w1 ⟨rfl, hb1⟩
  have HP1 := Lib.hid (And.intro (HP0.out.1.below hb1) (And.intro (HP0.out.2.1.below hb1) (HP0.out.2.2.trans (hb1.mono HP0.out.2.2.size))))
  clear HP0 hb1
  cases hcond : fitB l
  case false =>
    clear hcond
    go_wp2_with fail
    refine (awake22_any _).mono ?_; rintro e w2 ⟨rfl, hb2⟩
    have HP2 := Lib.hid (And.intro (HP1.out.1.below hb2) (And.intro (HP1.out.2.1.below hb2) (HP1.out.2.2.trans (hb2.mono HP1.out.2.2.size))))
    clear HP1 hb2
    go_wp2_with fail
    go_ret
    exact ⟨rfl, HP2.out.2.2⟩
  case true =>
    have HF := Lib.hid hcond
    clear hcond
    go_wp2_with fail
    refine (names_b pods B d _ HP1.out.2.1 hm).mono ?_; rintro e w2 ⟨rfl, hb2⟩
    have HP2 := Lib.hid (And.intro (HP1.out.1.below hb2) (And.intro (HP1.out.2.1.below hb2) (HP1.out.2.2.trans (hb2.mono HP1.out.2.2.size))))
    clear HP1 hb2
    cases hcond : namesB pods
    case false =>
      clear hcond
      go_wp2_with fail
      refine (awake22_any _).mono ?_; rintro e w3 ⟨rfl, hb3⟩
      have HP3 := Lib.hid (And.intro (HP2.out.1.below hb3) (And.intro (HP2.out.2.1.below hb3) (HP2.out.2.2.trans (hb3.mono HP2.out.2.2.size))))
      clear HP2 hb3
      go_wp2_with fail
      go_ret
      exact ⟨rfl, HP3.out.2.2⟩
    case true =>
      have HN := Lib.hid hcond
      clear hcond
      have hl1 : l.length ≤ 60 := fitB_len HF.out
      have hnd := Lib.hid (fit_nodup HF.out)
      go_wp2_with fail
      refine (lostE_any l pods A B c d _ HP2.out.1 HP2.out.2.1 (by omega) hm).mono ?_; rintro e w3 ⟨a, A1, c1, rfl, HA, hO1, hb3⟩
      have HP3 := Lib.hid (And.intro (hO1.mono HP2.out.2.2.size) (And.intro (HP2.out.1.below hb3) (And.intro (HP2.out.2.1.below hb3) (HP2.out.2.2.trans (hb3.mono HP2.out.2.2.size)))))
      clear HP2 hb3 hO1
      go_wp2_with fail
      refine (deadE_any l pods A B c d _ HP3.out.2.1 HP3.out.2.2.1 (by omega) hm hnd.out).mono ?_; rintro e w4 ⟨b, A2, c2, rfl, HB, hO2, hb4⟩
      have HP4 := Lib.hid (And.intro (hO2.mono HP3.out.2.2.2.size) (And.intro (HP3.out.1.below hb4 (Nat.le_refl _)) (And.intro (HP3.out.2.1.below hb4) (And.intro (HP3.out.2.2.1.below hb4) (HP3.out.2.2.2.trans (hb4.mono HP3.out.2.2.2.size))))))
      clear HP3 hb4 hO2
      have HC := Lib.hid (parts_count l pods)
      have HA1 := Lib.hid (fun (x : Cn) (hx : x ∈ l) => (hasB_ids hnd.out (isLost pods) hx))
      have HA2 := Lib.hid (fun (x : Cn) (hx : x ∈ l) => (hasB_dead hnd.out pods hx))
      rw [← HA.out] at HA1 HC
      rw [← HB.out] at HA2 HC
      have hla : a.length ≤ 9223372036854775807 := by have := HC.out; omega
      have hlb : b.length ≤ 9223372036854775807 := by have := HC.out; omega
      have hla2 : a.length ≤ 60 := by have := HC.out; omega
      have hlb2 : b.length ≤ 60 := by have := HC.out; omega
      clear HA HB HF HN hnd
      go_wp2_with fail
      go_loop [7, 8] (fun n i => ∃ k N : Nat, k ≤ l.length ∧ i = .int .i64 k ∧ n = .int .i64 N ∧ N = ((l.take k).filter (isPod pods)).length) (fun _ i => l.length - (intOf i).toNat)
      case atStart => exact ⟨0, 0, by omega, rfl, rfl, rfl⟩
      case round =>
        obtain ⟨k, N, hk, rfl, rfl, h0⟩ := hrel
        have hNk : N ≤ 60 := by rw [h0]; have := List.length_filter_le (isPod pods) (l.take k); rw [List.length_take] at this; omega
        have H0 := Lib.hid h0
        clear h0
        by_cases hlt : k < l.length
        · have hA1 := HA1.out l[k] (List.getElem_mem hlt)
          have hA2 := HA2.out l[k] (List.getElem_mem hlt)
          have hyes := filter_yes (isPod pods) l k hlt
          have hno := filter_no (isPod pods) l k hlt
          obtain ⟨b0, off, rfl, hb0, hcid, hcst, _, _⟩ := HP4.out.2.2.1.cn hlt
          have dk : decide ((k : Int) < (l.length : Int)) = true := decide_eq_true (by omega)
          have dk2 : (k : Int) < (l.length : Int) := by omega
          generalize l[k] = x at *
          have e1 : isLost pods x = ((x.state == 3) && !hasB pods x.id) := rfl
          have e2 : isDead pods x = (!(x.state == 3) && !hasB pods x.id) := rfl
          have e3 : isPod pods x = hasB pods x.id := rfl
          rw [e1] at hA1
          rw [e2] at hA2
          rw [e3] at hyes hno
          cases hpp : hasB pods x.id
          · rw [hpp] at hA1 hA2
            have HN := Lib.hid (show N = ((l.take (k + 1)).filter (isPod pods)).length by rw [hno hpp]; exact H0.out)
            have hp := Lib.hid hpp
            clear hyes hno e1 e2 e3 hpp
            cases hst : (x.state == 3)
            · rw [hst] at hA1 hA2
              have ha := Lib.hid hA1
              have hb := Lib.hid hA2
              have hst2 : (x.state != 3) = true := by unfold bne; rw [hst]; rfl
              clear hA1 hA2
              go_wp2_with fail
              refine (has_v pods x.id false hp.out B d _ HP4.out.2.2.2.1 hm).mono ?_; rintro e wa ⟨rfl, rfl⟩
              go_wp2_with fail
              refine (has_v a x.id false ha.out A1 c1 _ HP4.out.2.1.toRds hla).mono ?_; rintro e wa ⟨rfl, rfl⟩
              go_wp2_with fail
              refine (has_v b x.id true hb.out A2 c2 _ HP4.out.1.toRds hlb).mono ?_; rintro e wa ⟨rfl, rfl⟩
              go_wp2_with fail
              go_round
              case rel => exact ⟨k + 1, N, by omega, by go_num, rfl, HN.out⟩
              case measure => simp [intOf]; omega
            · rw [hst] at hA1 hA2
              have ha := Lib.hid hA1
              have hb := Lib.hid hA2
              have hst2 : (x.state != 3) = false := by unfold bne; rw [hst]; rfl
              clear hA1 hA2
              go_wp2_with fail
              refine (has_v pods x.id false hp.out B d _ HP4.out.2.2.2.1 hm).mono ?_; rintro e wa ⟨rfl, rfl⟩
              go_wp2_with fail
              refine (has_v a x.id true ha.out A1 c1 _ HP4.out.2.1.toRds hla).mono ?_; rintro e wa ⟨rfl, rfl⟩
              go_wp2_with fail
              refine (has_v b x.id false hb.out A2 c2 _ HP4.out.1.toRds hlb).mono ?_; rintro e wa ⟨rfl, rfl⟩
              go_wp2_with fail
              go_round
              case rel => exact ⟨k + 1, N, by omega, by go_num, rfl, HN.out⟩
              case measure => simp [intOf]; omega
          · rw [hpp, Bool.not_true, Bool.and_false] at hA1 hA2
            have HN := Lib.hid (show N + 1 = ((l.take (k + 1)).filter (isPod pods)).length by rw [hyes hpp, List.length_append, ← H0.out]; rfl)
            have hp := Lib.hid hpp
            have ha := Lib.hid hA1
            have hb := Lib.hid hA2
            clear hyes hno e1 e2 e3 hpp hA1 hA2
            go_wp2_with fail
            refine (has_v pods x.id true hp.out B d _ HP4.out.2.2.2.1 hm).mono ?_; rintro e wa ⟨rfl, rfl⟩
            go_wp2_with fail
            refine (has_v a x.id false ha.out A1 c1 _ HP4.out.2.1.toRds hla).mono ?_; rintro e wa ⟨rfl, rfl⟩
            go_wp2_with fail
            refine (has_v b x.id false hb.out A2 c2 _ HP4.out.1.toRds hlb).mono ?_; rintro e wa ⟨rfl, rfl⟩
            go_wp2_with fail
            go_round
            case rel => exact ⟨k + 1, N + 1, by omega, by go_num, by go_num, HN.out⟩
            case measure => simp [intOf]; omega
        · obtain rfl : k = l.length := by omega
          have dk : decide ((l.length : Int) < (l.length : Int)) = false := by simp
          have hfin : a.length + b.length + N = l.length := by have h1 := H0.out; rw [List.take_length] at h1; rw [h1]; exact HC.out
          have d1 : decide ((a.length : Int) + (b.length : Int) + (N : Int) = (l.length : Int)) = true := decide_eq_true (by omega)
          have d2 : ((a.length : Int) + (b.length : Int) + (N : Int) == (l.length : Int)) = true := beq_iff_eq.2 (by omega)
          clear hfin
          go_wp2_with fail
          go_ret
          exact ⟨rfl, HP4.out.2.2.2.2⟩
end Go.Proofs.Ytfaklhdafpbkmaa
