/- bilgelaw22.SweepLeast: of whatever images, used names and need: enough is free or all went, and without the last one it wouldn't be enough. -/
import Derived.Test.YtfaklhdafpbkmaaColLaw
namespace Go.Proofs.Ytfaklhdafpbkmaa
open Go.RowKit

set_option maxRecDepth 100000 in
set_option maxHeartbeats 8000000 in
theorem sweepLeast_any (l : List Im) (pods : List ByteArray) (need : Int) (A B : Option Addr) (c d : Nat) (w : World) (hr : Rds w encI A l) (hs : Rds w encS B pods) (hl : l.length ≤ 9223372036854775807) (hm : pods.length ≤ 9223372036854775807) (hwf : ∀ x ∈ l, I64 x.size) (hneed : I64 need) :
    Calls Try.prog 7 #[.slice A l.length c, .slice B pods.length d, .int .i64 need] w fun e w' => e = .returned (.bool true) ∧ Below w.heap.size w w' := by
  have HR := Lib.hid hr
  have HS := Lib.hid hs
  have HX := Lib.hid hwf
  clear hr hs hwf
  go_enter Try.func7, Try.ntmps7
  go_wp2_with fail
  refine (awake22_any _).mono ?_; rintro e w0 ⟨rfl, hb0⟩
  have HP0 := Lib.hid (And.intro (HR.out.below hb0) (And.intro (HS.out.below hb0) (hb0)))
  clear hb0 HR HS
  go_wp2_with fail
  refine (fewI_b l A c _ HP0.out.1 hl).mono ?_; rintro e w1 ⟨rfl, hb1⟩
  have HP1 := Lib.hid (And.intro (HP0.out.1.below hb1) (And.intro (HP0.out.2.1.below hb1) (HP0.out.2.2.trans (hb1.mono HP0.out.2.2.size))))
  clear HP0 hb1
  cases hcond : fewIB l
  case false =>
    clear hcond
    go_wp2_with fail
    refine (awake22_any _).mono ?_; rintro e w2 ⟨rfl, hb2⟩
    have HP2 := Lib.hid (And.intro (HP1.out.1.below hb2) (And.intro (HP1.out.2.1.below hb2) (HP1.out.2.2.trans (hb2.mono HP1.out.2.2.size))))
    clear HP1 hb2
    go_wp2_with fail
    go_ret
    exact ⟨rfl, HP2.out.2.2⟩
  case true =>
    have HF := Lib.hid hcond
    clear hcond
    go_wp2_with fail
    refine (rightI_b l A c _ HP1.out.1 hl).mono ?_; rintro e w2 ⟨rfl, hb2⟩
    have HP2 := Lib.hid (And.intro (HP1.out.1.below hb2) (And.intro (HP1.out.2.1.below hb2) (HP1.out.2.2.trans (hb2.mono HP1.out.2.2.size))))
    clear HP1 hb2
    cases hcond : rightIB l
    case false =>
      clear hcond
      go_wp2_with fail
      refine (awake22_any _).mono ?_; rintro e w3 ⟨rfl, hb3⟩
      have HP3 := Lib.hid (And.intro (HP2.out.1.below hb3) (And.intro (HP2.out.2.1.below hb3) (HP2.out.2.2.trans (hb3.mono HP2.out.2.2.size))))
      clear HP2 hb3
      go_wp2_with fail
      go_ret
      exact ⟨rfl, HP3.out.2.2⟩
    case true =>
      have HG := Lib.hid hcond
      clear hcond
      go_wp2_with fail
      refine (names_b pods B d _ HP2.out.2.1 hm).mono ?_; rintro e w3 ⟨rfl, hb3⟩
      have HP3 := Lib.hid (And.intro (HP2.out.1.below hb3) (And.intro (HP2.out.2.1.below hb3) (HP2.out.2.2.trans (hb3.mono HP2.out.2.2.size))))
      clear HP2 hb3
      cases hcond : namesB pods
      case false =>
        clear hcond
        go_wp2_with fail
        refine (awake22_any _).mono ?_; rintro e w4 ⟨rfl, hb4⟩
        have HP4 := Lib.hid (And.intro (HP3.out.1.below hb4) (And.intro (HP3.out.2.1.below hb4) (HP3.out.2.2.trans (hb4.mono HP3.out.2.2.size))))
        clear HP3 hb4
        go_wp2_with fail
        go_ret
        exact ⟨rfl, HP4.out.2.2⟩
      case true =>
        have HN := Lib.hid hcond
        clear hcond
        have hl1 : l.length ≤ 60 := fewIB_len HF.out
        have hnd := Lib.hid (rightIB_nodup HG.out)
        go_wp2_with fail
        go_loop [7] (fun i => ∃ k : Nat, k ≤ l.length ∧ i = .int .i64 k ∧ (l.take k).all (fun x => decide (x.size ≤ 1000000000000)) = true) (fun i => l.length - (intOf i).toNat)
        case atStart => exact ⟨0, by omega, rfl, rfl⟩
        case round =>
          obtain ⟨k, hk, rfl, h0⟩ := hrel
          have H0 := Lib.hid h0
          clear h0
          by_cases hlt : k < l.length
          · have dk : decide ((k : Int) < (l.length : Int)) = true := decide_eq_true (by omega)
            have dk2 : (k : Int) < (l.length : Int) := by omega
            obtain ⟨b0, off, rfl, hb0, _, hcs, _⟩ := HP3.out.1.im hlt
            by_cases he : (1000000000000 : Int) < l[k].size
            · generalize l[k] = t at *
              have d1 : decide ((1000000000000 : Int) < t.size) = true := decide_eq_true he
              go_wp2_with fail
              go_ret
              exact ⟨rfl, HP3.out.2.2⟩
            · have HY := Lib.hid (allsnoc (fun x : Im => decide (x.size ≤ 1000000000000)) l k hlt H0.out (decide_eq_true (by omega)))
              generalize l[k] = t at *
              have d1 : decide ((1000000000000 : Int) < t.size) = false := decide_eq_false he
              have d2 : t.size ≤ 1000000000000 := by omega
              clear he
              go_wp2_with fail
              go_round
              case rel => exact ⟨k + 1, by omega, by go_num, HY.out⟩
              case measure => simp [intOf]; omega
          · obtain rfl : k = l.length := by omega
            have dk : decide ((l.length : Int) < (l.length : Int)) = false := by simp
            have HZ := Lib.hid (show ∀ x ∈ l, 0 ≤ x.size ∧ x.size ≤ 1000000000000 from fun x hx => ⟨rightIB_pos HG.out hx, by have h1 := H0.out; rw [List.take_length] at h1; exact of_decide_eq_true (List.all_eq_true.1 h1 x hx)⟩)
            clear H0 hk hlt
            go_wp2_with fail
            refine (collectE_any l pods need [] A B none c d 0 _ HP3.out.1 HP3.out.2.1 (Rds.nil _ _ _) (by omega) hm (by simp) HX.out hneed).mono ?_; rintro e w4 ⟨K, G, F, A1, c1, rfl, hcg, hO1, hb4⟩
            have HP4 := Lib.hid (And.intro (hO1.mono HP3.out.2.2.size) (And.intro (HP3.out.1.below hb4) (And.intro (HP3.out.2.1.below hb4) (HP3.out.2.2.trans (hb4.mono HP3.out.2.2.size)))))
            clear HP3 hb4 hO1
            obtain ⟨o, HW⟩ : ∃ o, Hid (Went l pods need o K G F) := ⟨_, Lib.hid (Went.of hcg)⟩
            clear hcg
            have hG1 : G.length ≤ 60 := by have h1 := HW.out.len; have h2 := HW.out.kle; have h3 := HW.out.olen; omega
            have hKG1 : K ≤ G.length := by have h1 := HW.out.len; omega
            have hKG2 : G.length ≤ K := by have h1 := HW.out.len; omega
            go_wp2_with fail
            go_loop [11, 12, 13] (fun sum size i => ∃ (k : Nat) (sm sz : Int), k ≤ G.length ∧ i = .int .i64 k ∧ sum = .int .i64 sm ∧ size = .int .i64 sz ∧ sm = sumI (o.take k) ∧ sm - sz = sumI (o.take (k - 1)) ∧ 0 ≤ sz ∧ sz ≤ 1000000000000) (fun _ _ i => G.length - (intOf i).toNat)
            case atStart => exact ⟨0, 0, 0, by omega, rfl, rfl, rfl, rfl, rfl, by omega, by omega⟩
            case round =>
              obtain ⟨k, sm, sz, hk, rfl, rfl, rfl, h0, h1, hz1, hz2⟩ := hrel
              have hsb : 0 ≤ sm ∧ sm ≤ 60 * 1000000000000 := by
                have hko : k ≤ o.length := by have h1 := HW.out.len; have h2 := HW.out.kle; omega
                have hob : ∀ x ∈ o, 0 ≤ x.size ∧ x.size ≤ 1000000000000 := fun x hx => HZ.out x (by have := HW.out.eo; rw [this] at hx; exact orderOf_mem hx)
                have := sumI_bd hob k hko
                rw [← h0] at this
                omega
              obtain ⟨hsb1, hsb2⟩ := hsb
              have H0 := Lib.hid (And.intro h0 h1)
              clear h0 h1
              by_cases hlt : k < G.length
              · have dk : decide ((k : Int) < (G.length : Int)) = true := decide_eq_true (by omega)
                have dk2 : (k : Int) < (G.length : Int) := by omega
                obtain ⟨j, hj, hio, e, hpl, hhas⟩ := HW.out.at_ hnd.out hlt
                obtain ⟨b1, o1, rfl, hb1, hc1⟩ := HP4.out.1.toRds.str hlt
                obtain ⟨b0, off, rfl, hb0, _, hcs, _⟩ := HP4.out.2.1.im hj
                have hzb := HZ.out l[j] (List.getElem_mem hj)
                have HQ := Lib.hid (show sm + l[j].size = sumI (o.take (k + 1)) by rw [sumI_snoc hio, ← e, ← H0.out.1])
                have HPL := Lib.hid hpl
                have HH := Lib.hid hhas
                obtain ⟨hzb1, hzb2⟩ := hzb
                clear e hpl hhas
                generalize l[j].size = z at *
                generalize G[k] = t at *
                have dj : decide ((j : Int) < 0) = false := decide_eq_false (by omega)
                have dj2 : (j : Int) < (l.length : Int) := by omega
                go_wp2_with fail
                refine (place_v l t j HPL.out _ c _ HP4.out.2.1 hl).mono ?_; rintro e wa ⟨rfl, rfl⟩
                go_wp2_with fail
                refine (has_v pods t false HH.out B d _ HP4.out.2.2.1 hm).mono ?_; rintro e wa ⟨rfl, rfl⟩
                go_wp2_with fail
                go_round
                case rel => exact ⟨k + 1, sm + z, z, by omega, by go_num, rfl, rfl, HQ.out, by rw [Nat.add_sub_cancel, ← H0.out.1]; omega, hzb1, hzb2⟩
                case measure => simp [intOf]; omega
              · obtain rfl : k = G.length := by omega
                have dk : decide ((G.length : Int) < (G.length : Int)) = false := by simp
                have hF : sm = F := by
                  have h1 := HW.out.len
                  have h2 := HW.out.sum HZ.out hl1
                  rw [h2, ← h1]; exact H0.out.1
                have hlast : 0 < G.length → sm - sz < need := fun h => by
                  have h1 := HW.out.len
                  rw [H0.out.2]
                  exact HW.out.least HZ.out hl1 (by omega)
                have HL2 := Lib.hid (And.intro hF hlast)
                clear hF hlast H0 hlt
                go_wp2_with fail
                go_loop [15, 16] (fun n i => ∃ k N : Nat, k ≤ l.length ∧ i = .int .i64 k ∧ n = .int .i64 N ∧ N = ((l.take k).filter (isFree pods)).length) (fun _ i => l.length - (intOf i).toNat)
                case atStart => exact ⟨0, 0, by omega, rfl, rfl, rfl⟩
                case round =>
                  obtain ⟨k, N, hk, rfl, rfl, h0⟩ := hrel
                  have hNk : N ≤ 60 := by rw [h0]; have := List.length_filter_le (isFree pods) (l.take k); rw [List.length_take] at this; omega
                  have H0 := Lib.hid h0
                  clear h0
                  by_cases hlt : k < l.length
                  · have dk3 : decide ((k : Int) < (l.length : Int)) = true := decide_eq_true (by omega)
                    have dk2 : (k : Int) < (l.length : Int) := by omega
                    have hyes := filter1_yes (isFree pods) l k hlt
                    have hno := filter1_no (isFree pods) l k hlt
                    obtain ⟨b0, off, rfl, hb0, hcn, _, _⟩ := HP4.out.2.1.im hlt
                    generalize l[k] = x at *
                    have e3 : isFree pods x = !hasB pods x.name := rfl
                    rw [e3] at hyes hno
                    cases hpp : hasB pods x.name
                    · have HN2 := Lib.hid (show N + 1 = ((l.take (k + 1)).filter (isFree pods)).length by rw [hyes (by rw [hpp]; rfl), List.length_append, ← H0.out]; rfl)
                      have hp := Lib.hid hpp
                      clear hyes hno e3 hpp
                      go_wp2_with fail
                      refine (has_v pods x.name false hp.out B d _ HP4.out.2.2.1 hm).mono ?_; rintro e wa ⟨rfl, rfl⟩
                      go_wp2_with fail
                      go_round
                      case rel => exact ⟨k + 1, N + 1, by omega, by go_num, by go_num, HN2.out⟩
                      case measure => simp [intOf]; omega
                    · have HN2 := Lib.hid (show N = ((l.take (k + 1)).filter (isFree pods)).length by rw [hno (by rw [hpp]; rfl)]; exact H0.out)
                      have hp := Lib.hid hpp
                      clear hyes hno e3 hpp
                      go_wp2_with fail
                      refine (has_v pods x.name true hp.out B d _ HP4.out.2.2.1 hm).mono ?_; rintro e wa ⟨rfl, rfl⟩
                      go_wp2_with fail
                      go_round
                      case rel => exact ⟨k + 1, N, by omega, by go_num, rfl, HN2.out⟩
                      case measure => simp [intOf]; omega
                  · obtain rfl : k = l.length := by omega
                    have dk3 : decide ((l.length : Int) < (l.length : Int)) = false := by simp
                    have hNo : N = o.length := by have h1 := H0.out; rw [List.take_length] at h1; rw [h1]; exact HW.out.free
                    have hen := HW.out.enough
                    have hF := HL2.out.1
                    have hlast := HL2.out.2
                    have d1 : ((K : Int) == (G.length : Int)) = true := beq_iff_eq.2 (by omega)
                    have d2 : (F == sm) = true := beq_iff_eq.2 hF.symm
                    have hcase : (need ≤ F) ∨ (F < need ∧ G.length = N) := by
                      rcases Int.lt_or_le F need with h | h
                      · exact Or.inr ⟨h, by rcases hen with h2 | h2 <;> omega⟩
                      · exact Or.inl h
                    have hcase2 : G.length = 0 ∨ (0 < G.length ∧ sm - sz < need) := by
                      rcases Nat.eq_zero_or_pos G.length with h | h
                      · exact Or.inl h
                      · exact Or.inr ⟨h, hlast h⟩
                    clear hNo hen hF hlast HL2 H0 HZ HW
                    rcases hcase with hc | ⟨hc, hc'⟩ <;> rcases hcase2 with hd | ⟨hd, hd'⟩
                    · have d3 : decide (need ≤ F) = true := decide_eq_true hc
                      have d4 : ((G.length : Int) == 0) = true := beq_iff_eq.2 (by omega)
                      clear hc hd
                      go_wp2_with fail
                      go_ret
                      exact ⟨rfl, HP4.out.2.2.2⟩
                    · have d3 : decide (need ≤ F) = true := decide_eq_true hc
                      have d4 : ((G.length : Int) == 0) = false := beq_eq_false_iff_ne.2 (by omega)
                      have d5 : decide (sm - sz < need) = true := decide_eq_true hd'
                      clear hc hd hd'
                      go_wp2_with fail
                      go_ret
                      exact ⟨rfl, HP4.out.2.2.2⟩
                    · have d3 : decide (need ≤ F) = false := decide_eq_false (by omega)
                      have d3' : ((G.length : Int) == (N : Int)) = true := beq_iff_eq.2 (by omega)
                      have d4 : ((G.length : Int) == 0) = true := beq_iff_eq.2 (by omega)
                      clear hc hc' hd
                      go_wp2_with fail
                      go_ret
                      exact ⟨rfl, HP4.out.2.2.2⟩
                    · have d3 : decide (need ≤ F) = false := decide_eq_false (by omega)
                      have d3' : ((G.length : Int) == (N : Int)) = true := beq_iff_eq.2 (by omega)
                      have d4 : ((G.length : Int) == 0) = false := beq_eq_false_iff_ne.2 (by omega)
                      have d5 : decide (sm - sz < need) = true := decide_eq_true hd'
                      clear hc hc' hd hd'
                      go_wp2_with fail
                      go_ret
                      exact ⟨rfl, HP4.out.2.2.2⟩
end Go.Proofs.Ytfaklhdafpbkmaa
