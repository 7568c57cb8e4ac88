/- bilgelaw22.SweepOldest: of whatever images, used names and need: no image that isn't used and stays was used ahead of one that goes. -/
import Derived.Test.YtfaklhdafpbkmaaColLaw
namespace Go.Proofs.Ytfaklhdafpbkmaa
open Go.RowKit

set_option maxRecDepth 100000 in
set_option maxHeartbeats 8000000 in
theorem sweepOldest_any (l : List Im) (pods : List ByteArray) (need : Int) (A B : Option Addr) (c d : Nat) (w : World) (hr : Rds w encI A l) (hs : Rds w encS B pods) (hl : l.length ≤ 9223372036854775807) (hm : pods.length ≤ 9223372036854775807) (hwf : ∀ x ∈ l, I64 x.size) (hneed : I64 need) :
    Calls Try.prog 8 #[.slice A l.length c, .slice B pods.length d, .int .i64 need] w fun e w' => e = .returned (.bool true) ∧ Below w.heap.size w w' := by
  have HR := Lib.hid hr
  have HS := Lib.hid hs
  have HX := Lib.hid hwf
  clear hr hs hwf
  go_enter Try.func8, Try.ntmps8
  go_wp2_with fail
  refine (awake22_any _).mono ?_; rintro e w0 ⟨rfl, hb0⟩
  have HP0 := Lib.hid (And.intro (HR.out.below hb0) (And.intro (HS.out.below hb0) (hb0)))
  clear hb0 HR HS
  go_wp2_with fail
  refine (fewI_b l A c _ HP0.out.1 hl).mono ?_; rintro e w1 ⟨rfl, hb1⟩
  have HP1 := Lib.hid (And.intro (HP0.out.1.below hb1) (And.intro (HP0.out.2.1.below hb1) (HP0.out.2.2.trans (hb1.mono HP0.out.2.2.size))))
  clear HP0 hb1
  cases hcond : fewIB l
  case false =>
    clear hcond
    go_wp2_with fail
    refine (awake22_any _).mono ?_; rintro e w2 ⟨rfl, hb2⟩
    have HP2 := Lib.hid (And.intro (HP1.out.1.below hb2) (And.intro (HP1.out.2.1.below hb2) (HP1.out.2.2.trans (hb2.mono HP1.out.2.2.size))))
    clear HP1 hb2
    go_wp2_with fail
    go_ret
    exact ⟨rfl, HP2.out.2.2⟩
  case true =>
    have HF := Lib.hid hcond
    clear hcond
    go_wp2_with fail
    refine (rightI_b l A c _ HP1.out.1 hl).mono ?_; rintro e w2 ⟨rfl, hb2⟩
    have HP2 := Lib.hid (And.intro (HP1.out.1.below hb2) (And.intro (HP1.out.2.1.below hb2) (HP1.out.2.2.trans (hb2.mono HP1.out.2.2.size))))
    clear HP1 hb2
    cases hcond : rightIB l
    case false =>
      clear hcond
      go_wp2_with fail
      refine (awake22_any _).mono ?_; rintro e w3 ⟨rfl, hb3⟩
      have HP3 := Lib.hid (And.intro (HP2.out.1.below hb3) (And.intro (HP2.out.2.1.below hb3) (HP2.out.2.2.trans (hb3.mono HP2.out.2.2.size))))
      clear HP2 hb3
      go_wp2_with fail
      go_ret
      exact ⟨rfl, HP3.out.2.2⟩
    case true =>
      have HG := Lib.hid hcond
      clear hcond
      go_wp2_with fail
      refine (names_b pods B d _ HP2.out.2.1 hm).mono ?_; rintro e w3 ⟨rfl, hb3⟩
      have HP3 := Lib.hid (And.intro (HP2.out.1.below hb3) (And.intro (HP2.out.2.1.below hb3) (HP2.out.2.2.trans (hb3.mono HP2.out.2.2.size))))
      clear HP2 hb3
      cases hcond : namesB pods
      case false =>
        clear hcond
        go_wp2_with fail
        refine (awake22_any _).mono ?_; rintro e w4 ⟨rfl, hb4⟩
        have HP4 := Lib.hid (And.intro (HP3.out.1.below hb4) (And.intro (HP3.out.2.1.below hb4) (HP3.out.2.2.trans (hb4.mono HP3.out.2.2.size))))
        clear HP3 hb4
        go_wp2_with fail
        go_ret
        exact ⟨rfl, HP4.out.2.2⟩
      case true =>
        have HN := Lib.hid hcond
        clear hcond
        have hl1 : l.length ≤ 60 := fewIB_len HF.out
        have hnd := Lib.hid (rightIB_nodup HG.out)
        go_wp2_with fail
        refine (collectE_any l pods need [] A B none c d 0 _ HP3.out.1 HP3.out.2.1 (Rds.nil _ _ _) (by omega) hm (by simp) HX.out hneed).mono ?_; rintro e w4 ⟨K, G, F, A1, c1, rfl, hcg, hO1, hb4⟩
        have HP4 := Lib.hid (And.intro (hO1.mono HP3.out.2.2.size) (And.intro (HP3.out.1.below hb4) (And.intro (HP3.out.2.1.below hb4) (HP3.out.2.2.trans (hb4.mono HP3.out.2.2.size)))))
        clear HP3 hb4 hO1
        obtain ⟨o, HW⟩ : ∃ o, Hid (Went l pods need o K G F) := ⟨_, Lib.hid (Went.of hcg)⟩
        clear hcg
        have hG1 : G.length ≤ 60 := by have h1 := HW.out.len; have h2 := HW.out.kle; have h3 := HW.out.olen; omega
        go_wp2_with fail
        go_loopw [10] (fun i wr => ∃ k nn : Nat, k ≤ G.length ∧ i = .int .i64 k ∧ wr = w4.drewN nn) (fun i _ => G.length - (intOf i).toNat)
        case atStart => exact ⟨0, 0, by omega, rfl, rfl⟩
        case round =>
          obtain ⟨k, nn, hk, rfl, rfl⟩ := hrel
          by_cases hlt : k < G.length
          · have dk : decide ((k : Int) < (G.length : Int)) = true := decide_eq_true (by omega)
            have dk2 : (k : Int) < (G.length : Int) := by omega
            obtain ⟨j, hj, hio, e, hpl, hhas⟩ := HW.out.at_ hnd.out hlt
            obtain ⟨b1, o1, hA1, hb1, hc1⟩ := HP4.out.1.toRds.str hlt
            obtain ⟨b0, off, hA, hb0, _, _, hcl⟩ := HP4.out.2.1.im hj
            have HLT := Lib.hid (fun (q : Nat) (hq : q < l.length) (hu : hasB pods l[q].name = false) (hg : hasB G l[q].name = false) => HW.out.later hlt hio hq hu hg)
            rw [← e] at HLT
            have HPL := Lib.hid hpl
            clear e hpl hhas
            have HLAST := Lib.hid (rfl : l[j].last = l[j].last)
            obtain ⟨z, hz⟩ : ∃ z, z = l[j].last := ⟨_, rfl⟩
            rw [← hz] at HLT hcl
            clear hz HLAST
            generalize G[k] = t at *
            subst hA1
            subst hA
            have dj : decide ((j : Int) < 0) = false := decide_eq_false (by omega)
            have dj2 : (j : Int) < (l.length : Int) := by omega
            go_wp2_with fail
            refine (place_v l t j HPL.out _ c _ (HP4.out.2.1.drewN _) hl).mono ?_; rintro e wa ⟨rfl, rfl⟩
            go_wp2_with fail
            go_loopw [12] (fun i wr => ∃ q n2 : Nat, q ≤ l.length ∧ i = .int .i64 q ∧ wr = w4.drewN n2) (fun i _ => l.length - (intOf i).toNat)
            case atStart => exact ⟨0, _, by omega, rfl, rfl⟩
            case round =>
              obtain ⟨q, n2, hq, rfl, rfl⟩ := hrel
              by_cases hqlt : q < l.length
              · have dq : decide ((q : Int) < (l.length : Int)) = true := decide_eq_true (by omega)
                have dq2 : (q : Int) < (l.length : Int) := by omega
                obtain ⟨b0', off', e1, hb0', hcn', _, hcl'⟩ := HP4.out.2.1.im hqlt
                injection e1 with e1
                injection e1 with e1 e1'
                subst e1
                subst e1'
                have hlater := HLT.out q hqlt
                generalize l[q] = x at *
                cases hu : hasB pods x.name
                · cases hg : hasB G x.name
                  · have dl : decide (x.last < z) = false := decide_eq_false (by have := hlater hu hg; omega)
                    have LS := Lib.hid (fun n3 : Nat => has_q pods x.name false hu B d w4 n2 n3 HP4.out.2.2.1 hm)
                    have LT := Lib.hid (fun n3 : Nat => has_q G x.name false hg (some ⟨b1, o1, none⟩) c1 w4 n2 n3 HP4.out.1.toRds (by omega))
                    clear hlater hu hg
                    go_wp2_with fail
                    go_quiet (first | (go_at_call 27; with_reducible first | exact (LS.out _) | exact (LT.out _)))
                    go_wp2_with fail
                    go_roundw
                    case rel => exact ⟨q + 1, _, by omega, by go_num, rfl⟩
                    case measure => simp [intOf]; omega
                  · have LS := Lib.hid (fun n3 : Nat => has_q pods x.name false hu B d w4 n2 n3 HP4.out.2.2.1 hm)
                    have LT := Lib.hid (fun n3 : Nat => has_q G x.name true hg (some ⟨b1, o1, none⟩) c1 w4 n2 n3 HP4.out.1.toRds (by omega))
                    clear hlater hu hg
                    go_wp2_with fail
                    go_quiet (first | (go_at_call 27; with_reducible first | exact (LS.out _) | exact (LT.out _)))
                    go_wp2_with fail
                    go_roundw
                    case rel => exact ⟨q + 1, _, by omega, by go_num, rfl⟩
                    case measure => simp [intOf]; omega
                · have LS := Lib.hid (fun n3 : Nat => has_q pods x.name true hu B d w4 n2 n3 HP4.out.2.2.1 hm)
                  clear hlater hu
                  go_wp2_with fail
                  go_quiet (first | (go_at_call 27; with_reducible exact (LS.out _)))
                  go_wp2_with fail
                  go_roundw
                  case rel => exact ⟨q + 1, _, by omega, by go_num, rfl⟩
                  case measure => simp [intOf]; omega
              · obtain rfl : q = l.length := by omega
                have dq : decide ((l.length : Int) < (l.length : Int)) = false := by simp
                go_wp2_with fail
                go_roundw
                case rel => exact ⟨k + 1, _, by omega, by go_num, rfl⟩
                case measure => simp [intOf]; omega
          · obtain rfl : k = G.length := by omega
            have dk : decide ((G.length : Int) < (G.length : Int)) = false := by simp
            have HE := Lib.hid (HP4.out.2.2.2.trans ((below_ofDrewN (w := w4) ⟨nn, rfl⟩).mono HP4.out.2.2.2.size))
            by_cases hn0 : 0 < need
            · have d1 : decide (0 < need) = true := decide_eq_true hn0
              clear hn0
              go_wp2_with fail
              go_ret
              exact ⟨rfl, HE.out⟩
            · have hG0 : G.length = 0 := by have h1 := HW.out.len; have h2 := HW.out.none (by omega); omega
              have d1 : decide (0 < need) = false := decide_eq_false hn0
              have d2 : ((G.length : Int) == 0) = true := beq_iff_eq.2 (by omega)
              clear hn0 hG0
              go_wp2_with fail
              go_ret
              exact ⟨rfl, HE.out⟩
end Go.Proofs.Ytfaklhdafpbkmaa
