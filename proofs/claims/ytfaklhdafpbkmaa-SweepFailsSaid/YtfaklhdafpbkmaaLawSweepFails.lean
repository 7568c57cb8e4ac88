/- bilgelaw22.SweepFails: of whatever images, used names and need: where all fail none goes, and all that aren't used are asked. -/
import Derived.Test.YtfaklhdafpbkmaaColLaw
import Derived.Deep.OwnRows
import Derived.Laws.OwnMore
namespace Go.Proofs.Ytfaklhdafpbkmaa
open Go.RowKit

theorem infoBo : (Try.prog.info? 4).map (fun i => (i.zero, i.size, i.bytes)) = some (some (.bool false), 1, 1) := by kernel_rfl
theorem made_bo (n : Nat) : (madeCells #[.bool false] n).toList = encBo.all (List.replicate n false) := by
  rw [toList_madeCells_one]
  induction n with
  | zero => rfl
  | succ n ih => rw [List.replicate_succ, List.replicate_succ, encBo.all_cons, ← ih]; rfl
theorem failsE_any (l : List Im) (pods : List ByteArray) (need : Int) (A B C : Option Addr) (c d f0 : Nat) (w : World) (hr : Rds w encI A l) (hs : Rds w encS B pods) (hw : Rds w encBo C (List.replicate l.length false)) (hl : l.length ≤ 100000) (hm : pods.length ≤ 9223372036854775807) (hwf : ∀ x ∈ l, I64 x.size) (hneed : I64 need) :
    Calls Try.prog 31 #[.slice A l.length c, .slice B pods.length d, .int .i64 need, .slice C l.length f0] w fun e w' =>
      ∃ (K : Nat) (A' : Option Addr) (c' : Nat), e = .returned (.tuple #[.slice A' 0 c', .int .i64 0, .int .i64 K]) ∧ (need ≤ 0 → K = 0) ∧ (0 < need → K = (orderOf l pods).length) ∧ Below w.heap.size w w' := by
  have h := collectE_any l pods need (List.replicate l.length false) A B C c d f0 w hr hs hw hl hm (by simp; omega) hwf hneed
  rw [List.length_replicate] at h
  refine h.mono fun _ _ ⟨k, G, F, A', c', he, hcg, _, hb⟩ => ?_
  obtain ⟨hG, hF, h0, h1⟩ := fails_of (orderOf_len l pods) hcg
  subst hG
  subst hF
  exact ⟨k, A', c', he, h0, h1, hb⟩

set_option maxRecDepth 100000 in
set_option maxHeartbeats 8000000 in
theorem sweepFails_any (l : List Im) (pods : List ByteArray) (need : Int) (A B : Option Addr) (c d : Nat) (w : World) (hr : Rds w encI A l) (hs : Rds w encS B pods) (hl : l.length ≤ 9223372036854775807) (hm : pods.length ≤ 9223372036854775807) (hwf : ∀ x ∈ l, I64 x.size) (hneed : I64 need) :
    Calls Try.prog 9 #[.slice A l.length c, .slice B pods.length d, .int .i64 need] w fun e w' => e = .returned (.bool true) ∧ Below w.heap.size w w' := by
  have HR := Lib.hid hr
  have HS := Lib.hid hs
  have HX := Lib.hid hwf
  clear hr hs hwf
  go_enter Try.func9, Try.ntmps9
  go_wp2_with fail
  refine (awake22_any _).mono ?_; rintro e w0 ⟨rfl, hb0⟩
  have HP0 := Lib.hid (And.intro (HR.out.below hb0) (And.intro (HS.out.below hb0) (hb0)))
  clear hb0 HR HS
  go_wp2_with fail
  refine (fewI_b l A c _ HP0.out.1 hl).mono ?_; rintro e w1 ⟨rfl, hb1⟩
  have HP1 := Lib.hid (And.intro (HP0.out.1.below hb1) (And.intro (HP0.out.2.1.below hb1) (HP0.out.2.2.trans (hb1.mono HP0.out.2.2.size))))
  clear HP0 hb1
  cases hcond : fewIB l
  case false =>
    clear hcond
    go_wp2_with fail
    refine (awake22_any _).mono ?_; rintro e w2 ⟨rfl, hb2⟩
    have HP2 := Lib.hid (And.intro (HP1.out.1.below hb2) (And.intro (HP1.out.2.1.below hb2) (HP1.out.2.2.trans (hb2.mono HP1.out.2.2.size))))
    clear HP1 hb2
    go_wp2_with fail
    go_ret
    exact ⟨rfl, HP2.out.2.2⟩
  case true =>
    have HF := Lib.hid hcond
    clear hcond
    go_wp2_with fail
    refine (rightI_b l A c _ HP1.out.1 hl).mono ?_; rintro e w2 ⟨rfl, hb2⟩
    have HP2 := Lib.hid (And.intro (HP1.out.1.below hb2) (And.intro (HP1.out.2.1.below hb2) (HP1.out.2.2.trans (hb2.mono HP1.out.2.2.size))))
    clear HP1 hb2
    cases hcond : rightIB l
    case false =>
      clear hcond
      go_wp2_with fail
      refine (awake22_any _).mono ?_; rintro e w3 ⟨rfl, hb3⟩
      have HP3 := Lib.hid (And.intro (HP2.out.1.below hb3) (And.intro (HP2.out.2.1.below hb3) (HP2.out.2.2.trans (hb3.mono HP2.out.2.2.size))))
      clear HP2 hb3
      go_wp2_with fail
      go_ret
      exact ⟨rfl, HP3.out.2.2⟩
    case true =>
      have HG := Lib.hid hcond
      clear hcond
      go_wp2_with fail
      refine (names_b pods B d _ HP2.out.2.1 hm).mono ?_; rintro e w3 ⟨rfl, hb3⟩
      have HP3 := Lib.hid (And.intro (HP2.out.1.below hb3) (And.intro (HP2.out.2.1.below hb3) (HP2.out.2.2.trans (hb3.mono HP2.out.2.2.size))))
      clear HP2 hb3
      cases hcond : namesB pods
      case false =>
        clear hcond
        go_wp2_with fail
        refine (awake22_any _).mono ?_; rintro e w4 ⟨rfl, hb4⟩
        have HP4 := Lib.hid (And.intro (HP3.out.1.below hb4) (And.intro (HP3.out.2.1.below hb4) (HP3.out.2.2.trans (hb4.mono HP3.out.2.2.size))))
        clear HP3 hb4
        go_wp2_with fail
        go_ret
        exact ⟨rfl, HP4.out.2.2⟩
      case true =>
        have HN := Lib.hid hcond
        clear hcond
        have hl1 : l.length ≤ 60 := fewIB_len HF.out
        have hnd := Lib.hid (rightIB_nodup HG.out)
        have hmk := run_make_row' (P := Try.prog) 40 4 (.bool false) 1 Try.underlying40 infoBo rfl .i64 .i64 l.length (by omega) (by omega)
        have HWL := Lib.hid (Rds.made w3 encBo (List.replicate l.length false) 4 (madeCells #[.bool false] l.length) (0, 0) (made_bo l.length))
        go_wp2_with fail
        clear hmk
        refine (failsE_any l pods need A B _ c d l.length _ (HP3.out.1.alloc _) (HP3.out.2.1.alloc _) HWL.out (by omega) hm HX.out hneed).mono ?_; rintro e wz ⟨K, A1, c1, rfl, hk0, hk1, hbz⟩
        have HP9 := Lib.hid (And.intro ((HP3.out.1.alloc (.cells (madeCells #[.bool false] l.length) 4)).below hbz) (And.intro ((HP3.out.2.1.alloc (.cells (madeCells #[.bool false] l.length) 4)).below hbz) ((HP3.out.2.2.alloc HP3.out.2.2.size (.cells (madeCells #[.bool false] l.length) 4)).trans (hbz.mono (HP3.out.2.2.alloc HP3.out.2.2.size (.cells (madeCells #[.bool false] l.length) 4)).size))))
        have HK := Lib.hid (And.intro hk0 hk1)
        clear hk0 hk1 hbz HP3 HWL
        go_wp2_with fail
        go_loop [10, 11] (fun n i => ∃ k N : Nat, k ≤ l.length ∧ i = .int .i64 k ∧ n = .int .i64 N ∧ N = ((l.take k).filter (isFree pods)).length) (fun _ i => l.length - (intOf i).toNat)
        case atStart => exact ⟨0, 0, by omega, rfl, rfl, rfl⟩
        case round =>
          obtain ⟨k, N, hk, rfl, rfl, h0⟩ := hrel
          have hNk : N ≤ 60 := by rw [h0]; have := List.length_filter_le (isFree pods) (l.take k); rw [List.length_take] at this; omega
          have H0 := Lib.hid h0
          clear h0
          by_cases hlt : k < l.length
          · have dk3 : decide ((k : Int) < (l.length : Int)) = true := decide_eq_true (by omega)
            have dk2 : (k : Int) < (l.length : Int) := by omega
            have hyes := filter1_yes (isFree pods) l k hlt
            have hno := filter1_no (isFree pods) l k hlt
            obtain ⟨b0, off, rfl, hb0, hcn, _, _⟩ := HP9.out.1.im hlt
            generalize l[k] = x at *
            have e3 : isFree pods x = !hasB pods x.name := rfl
            rw [e3] at hyes hno
            cases hpp : hasB pods x.name
            · have HN2 := Lib.hid (show N + 1 = ((l.take (k + 1)).filter (isFree pods)).length by rw [hyes (by rw [hpp]; rfl), List.length_append, ← H0.out]; rfl)
              have hp := Lib.hid hpp
              clear hyes hno e3 hpp
              go_wp2_with fail
              refine (has_v pods x.name false hp.out B d _ HP9.out.2.1 hm).mono ?_; rintro e wa ⟨rfl, rfl⟩
              go_wp2_with fail
              go_round
              case rel => exact ⟨k + 1, N + 1, by omega, by go_num, by go_num, HN2.out⟩
              case measure => simp [intOf]; omega
            · have HN2 := Lib.hid (show N = ((l.take (k + 1)).filter (isFree pods)).length by rw [hno (by rw [hpp]; rfl)]; exact H0.out)
              have hp := Lib.hid hpp
              clear hyes hno e3 hpp
              go_wp2_with fail
              refine (has_v pods x.name true hp.out B d _ HP9.out.2.1 hm).mono ?_; rintro e wa ⟨rfl, rfl⟩
              go_wp2_with fail
              go_round
              case rel => exact ⟨k + 1, N, by omega, by go_num, rfl, HN2.out⟩
              case measure => simp [intOf]; omega
          · obtain rfl : k = l.length := by omega
            have dk3 : decide ((l.length : Int) < (l.length : Int)) = false := by simp
            have hNo : N = (orderOf l pods).length := by have h1 := H0.out; rw [List.take_length] at h1; rw [h1, orderOf_len_eq]
            have hk0 := HK.out.1
            have hk1 := HK.out.2
            rw [← hNo] at hk1
            clear HK H0 hNo
            by_cases hn0 : need ≤ 0
            · have h1 := hk0 hn0
              have d1 : decide (need ≤ 0) = true := decide_eq_true hn0
              have d2 : ((K : Int) == 0) = true := beq_iff_eq.2 (by omega)
              clear hk0 hk1 h1 hn0
              go_wp2_with fail
              go_ret
              exact ⟨rfl, HP9.out.2.2⟩
            · have h1 := hk1 (by omega)
              have d1 : decide (need ≤ 0) = false := decide_eq_false hn0
              have d2 : ((K : Int) == (N : Int)) = true := beq_iff_eq.2 (by omega)
              clear hk0 hk1 h1 hn0
              go_wp2_with fail
              go_ret
              exact ⟨rfl, HP9.out.2.2⟩
end Go.Proofs.Ytfaklhdafpbkmaa
