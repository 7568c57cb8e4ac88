/- bilgelaw15.ImageBack: of whatever images, name, size and round: what is put is found; dropped again it isn't there, and all else is as it was. -/
import Derived.Test.YtfaklhdafpbkmaaImgLaw
import Derived.Outline
namespace Go.Proofs.Ytfaklhdafpbkmaa
open Go.RowKit

set_option maxRecDepth 100000 in
set_option maxHeartbeats 8000000 in
theorem imageBack_any (l : List Im) (s : ByteArray) (size r : Int) (A : Option Addr) (c : Nat) (w : World) (hr : Rds w encI A l) (hl : l.length ≤ 9223372036854775807) :
    Calls Try.prog 15 #[.slice A l.length c, .string s, .int .i64 size, .int .i64 r] w fun e w' => e = .returned (.bool true) ∧ Below w.heap.size w w' := by
  have HR := Lib.hid hr
  clear hr
  go_enter Try.func15, Try.ntmps15
  go_wp2_with fail
  refine (awake15_any _).mono ?_; rintro e w0 ⟨rfl, hb0⟩
  have HP0 := Lib.hid (hb0)
  clear hb0
  go_wp2_with fail
  refine (few_b l A c _ (HR.out.below HP0.out) hl).mono ?_; rintro e w1 ⟨rfl, hb1⟩
  have HP1 := Lib.hid (HP0.out.trans (hb1.mono HP0.out.size))
  clear HP0 hb1
  cases hcond : fewIB l
  case false =>
    clear hcond
    go_wp2_with fail
    refine (awake15_any _).mono ?_; rintro e w2 ⟨rfl, hb2⟩
    have HP2 := Lib.hid (HP1.out.trans (hb2.mono HP1.out.size))
    clear HP1 hb2
    go_wp2_with fail
    go_ret
    exact ⟨rfl, HP2.out⟩
  case true =>
    have HF := Lib.hid hcond
    clear hcond
    go_wp2_with fail
    refine (right_b l A c _ (HR.out.below HP1.out) hl).mono ?_; rintro e w2 ⟨rfl, hb2⟩
    have HP2 := Lib.hid (HP1.out.trans (hb2.mono HP1.out.size))
    clear HP1 hb2
    cases hcond : rightIB l
    case false =>
      clear hcond
      go_wp2_with fail
      refine (awake15_any _).mono ?_; rintro e w3 ⟨rfl, hb3⟩
      have HP3 := Lib.hid (HP2.out.trans (hb3.mono HP2.out.size))
      clear HP2 hb3
      go_wp2_with fail
      go_ret
      exact ⟨rfl, HP3.out⟩
    case true =>
      have HG := Lib.hid hcond
      clear hcond
      by_cases hcond : (60 : Int) < (s.size : Int)
      · have dq : decide ((60 : Int) < (s.size : Int)) = true := decide_eq_true hcond
        have dqn : decide (60 < s.size) = true := decide_eq_true (by omega)
        have dqm : (60 : Int) < (s.size : Int) := hcond
        clear hcond
        go_wp2_with fail
        refine (awake15_any _).mono ?_; rintro e w3 ⟨rfl, hb3⟩
        have HP3 := Lib.hid (HP2.out.trans (hb3.mono HP2.out.size))
        clear HP2 hb3
        go_wp2_with fail
        go_ret
        exact ⟨rfl, HP3.out⟩
      · have dq : decide ((60 : Int) < (s.size : Int)) = false := decide_eq_false hcond
        have dqn : decide (60 < s.size) = false := decide_eq_false (by omega)
        have dqm : (s.size : Int) ≤ 60 := by omega
        clear hcond
        by_cases hcond : size < 0
        · have dz : decide (size < 0) = true := decide_eq_true hcond
          clear hcond
          go_wp2_with fail
          refine (awake15_any _).mono ?_; rintro e w3 ⟨rfl, hb3⟩
          have HP3 := Lib.hid (HP2.out.trans (hb3.mono HP2.out.size))
          clear HP2 hb3
          go_wp2_with fail
          go_ret
          exact ⟨rfl, HP3.out⟩
        · have dz : decide (size < 0) = false := decide_eq_false hcond
          clear hcond
          by_cases hcond : r < 0
          · have dr : decide (r < 0) = true := decide_eq_true hcond
            clear hcond
            go_wp2_with fail
            refine (awake15_any _).mono ?_; rintro e w3 ⟨rfl, hb3⟩
            have HP3 := Lib.hid (HP2.out.trans (hb3.mono HP2.out.size))
            clear HP2 hb3
            go_wp2_with fail
            go_ret
            exact ⟨rfl, HP3.out⟩
          · have dr : decide (r < 0) = false := decide_eq_false hcond
            clear hcond
            have hl1 : l.length ≤ 60 := few_len HF.out
            have HSO := Lib.hid (sorted_right HG.out)
            have HTH := Lib.hid (put_there (s := s) (size := size) (r := r) HSO.out)
            have HSP := Lib.hid (sorted_put (s := s) (size := size) (r := r) HSO.out)
            have HDP : Hid (dropAt (putOf l s size r) s = dropAt l s) := by show _ = _; rw [dropAt_eq HSP.out, dropOf_put, ← dropAt_eq HSO.out]
            have HDS : Hid (SortedN (dropAt l s)) := by show SortedN _; rw [dropAt_eq HSO.out]; exact sorted_dropOf HSO.out
            have HDG : Hid (isAt (dropAt l s) s = false) := by show _ = _; rw [dropAt_eq HSO.out]; exact drop_gone l s
            have HDL : Hid ((dropAt l s).length ≤ 60) := by show _ ≤ _; rw [dropAt_eq HSO.out]; unfold dropOf; exact Nat.le_trans (List.length_filter_le _ _) hl1
            have HPL : Hid ((putOf l s size r).length ≤ 61) := by
              show _ ≤ _
              cases hat : isAt l s
              · rw [putOf_no hat, insI_len _ _ _ (lowerI_le l s)]; omega
              · rw [put_len hat]; omega
            have des : (s.toList != s.toList) = false := by simp
            have der : (r != r) = false := by simp
            clear HF HG
            cases hat : isAt l s
            case false =>
              have HDI : Hid (dropAt l s = l) := by show _ = _; unfold dropAt; rw [hat]; rfl
              have HZ : Hid (findOf (putOf l s size r) s = ⟨s, size, r⟩) := by show _ = _; rw [HTH.out.2, hat]; rfl
              have dzz : (size != size) = false := by simp
              rw [HDI.out] at HDP HDS HDG HDL
              obtain ⟨F, HFO⟩ : ∃ F, Hid (findOf l s = F) := ⟨_, Lib.hid rfl⟩
              obtain ⟨p, HPO⟩ : ∃ p, Hid (putOf l s size r = p) := ⟨_, Lib.hid rfl⟩
              rw [HPO.out] at HTH HSP HDP HPL HZ
              have HAT := Lib.hid hat
              have HP1 := Lib.hid HTH.out.1
              have hpl := HPL.out
              have hdl := HDL.out
              clear hat HTH HPL HDL
              go_wp2_with fail
              refine (find_v HFO.out HAT.out A c _ (HR.out.below HP2.out) (by omega) HSO.out).mono ?_; rintro e w3 ⟨rfl, hb3⟩
              have HP3 := Lib.hid (HP2.out.trans (hb3.mono HP2.out.size))
              clear HP2 hb3
              have hbx : Below w3.heap.size w3 (w3.alloc (.cells F.cells 46)) := (Below.refl _ _).alloc (Nat.le_refl _) _
              have HP4 := Lib.hid (And.intro (Blk.new w3 46 F.cells) (HP3.out.trans (hbx.mono HP3.out.size)))
              clear HP3 hbx
              go_wp2_with fail
              refine (put_v HPO.out A c _ (HR.out.below HP4.out.2) (by omega) HSO.out).mono ?_; rintro e w4 ⟨A1, c1, rfl, hO, hb4⟩
              have HP5 := Lib.hid (And.intro (hO.mono HP4.out.2.size) (And.intro (HP4.out.1.belowAll hb4) (HP4.out.2.trans (hb4.mono HP4.out.2.size))))
              clear HP4 hb4 hO
              go_wp2_with fail
              refine (find_v HZ.out HP1.out A1 c1 _ HP5.out.1.toRds (by omega) HSP.out).mono ?_; rintro e w5 ⟨rfl, hb5⟩
              have HP6 := Lib.hid (And.intro (HP5.out.1.below hb5 (Nat.le_refl _)) (And.intro (HP5.out.2.1.belowAll hb5) (HP5.out.2.2.trans (hb5.mono HP5.out.2.2.size))))
              clear HP5 hb5
              have hbx : Below w5.heap.size w5 (w5.alloc (.cells (⟨s, size, r⟩ : Im).cells 46)) := (Below.refl _ _).alloc (Nat.le_refl _) _
              have HP7 := Lib.hid (And.intro (Blk.new w5 46 (⟨s, size, r⟩ : Im).cells) (And.intro (HP6.out.1.below hbx (Nat.le_refl _)) (And.intro (HP6.out.2.1.belowAll hbx) (HP6.out.2.2.trans (hbx.mono HP6.out.2.2.size)))))
              clear HP6 hbx
              go_wp2_with fail
              refine (drop_v HDP.out HP1.out A1 c1 _ HP7.out.2.1.toRds (by omega) HSP.out).mono ?_; rintro e w6 ⟨A2, c2, rfl, hO, hb6⟩
              have HP8 := Lib.hid (And.intro (hO.mono HP7.out.2.2.2.size) (And.intro (HP7.out.1.belowAll hb6) (And.intro (HP7.out.2.1.below hb6 (Nat.le_refl _)) (And.intro (HP7.out.2.2.1.belowAll hb6) (HP7.out.2.2.2.trans (hb6.mono HP7.out.2.2.2.size))))))
              clear HP7 hb6 hO
              go_wp2_with fail
              refine (find_v (findOf_no HDG.out) HDG.out A2 c2 _ HP8.out.1.toRds (by omega) HDS.out).mono ?_; rintro e w7 ⟨rfl, hb7⟩
              have HP9 := Lib.hid (And.intro (HP8.out.1.below hb7 (Nat.le_refl _)) (And.intro (HP8.out.2.1.belowAll hb7) (And.intro (HP8.out.2.2.1.below hb7 (Nat.le_refl _)) (And.intro (HP8.out.2.2.2.1.belowAll hb7) (HP8.out.2.2.2.2.trans (hb7.mono HP8.out.2.2.2.2.size))))))
              clear HP8 hb7
              have hbx : Below w7.heap.size w7 (w7.alloc (.cells zeroIm.cells 46)) := (Below.refl _ _).alloc (Nat.le_refl _) _
              have HP10 := Lib.hid (And.intro (Blk.new w7 46 zeroIm.cells) (And.intro (HP9.out.1.below hbx (Nat.le_refl _)) (And.intro (HP9.out.2.1.belowAll hbx) (And.intro (HP9.out.2.2.1.below hbx (Nat.le_refl _)) (And.intro (HP9.out.2.2.2.1.belowAll hbx) (HP9.out.2.2.2.2.trans (hbx.mono HP9.out.2.2.2.2.size)))))))
              clear HP9 hbx
              have y1 := HP10.out.2.2.2.2.1.cell
              have y2 := HP10.out.2.2.1.cell
              go_wp2_with fail
              refine (drop_v HDI.out HAT.out A c _ (HR.out.below HP10.out.2.2.2.2.2) (by omega) HSO.out).mono ?_; rintro e w8 ⟨A3, c3, rfl, hO, hb8⟩
              have HP11 := Lib.hid (And.intro (hO.mono HP10.out.2.2.2.2.2.size) (And.intro (HP10.out.1.belowAll hb8) (And.intro (HP10.out.2.1.below hb8 (Nat.le_refl _)) (And.intro (HP10.out.2.2.1.belowAll hb8) (And.intro (HP10.out.2.2.2.1.below hb8 (Nat.le_refl _)) (And.intro (HP10.out.2.2.2.2.1.belowAll hb8) (HP10.out.2.2.2.2.2.trans (hb8.mono HP10.out.2.2.2.2.2.size))))))))
              clear HP10 hb8 hO y1 y2
              go_wp2_with fail
              refine (sameI_self l A2 A3 c2 c3 _ HP11.out.2.2.1.toRds HP11.out.1.toRds (by omega)).mono ?_; rintro e w9 ⟨rfl, hb9⟩
              have HP12 := Lib.hid (And.intro (HP11.out.1.below hb9 (Nat.le_refl _)) (And.intro (HP11.out.2.1.belowAll hb9) (And.intro (HP11.out.2.2.1.below hb9 (Nat.le_refl _)) (And.intro (HP11.out.2.2.2.1.belowAll hb9) (And.intro (HP11.out.2.2.2.2.1.below hb9 (Nat.le_refl _)) (And.intro (HP11.out.2.2.2.2.2.1.belowAll hb9) (HP11.out.2.2.2.2.2.2.trans (hb9.mono HP11.out.2.2.2.2.2.2.size))))))))
              clear HP11 hb9
              go_wp2_with fail
              refine (sameI_self l A2 A c2 c _ HP12.out.2.2.1.toRds (HR.out.below HP12.out.2.2.2.2.2.2) (by omega)).mono ?_; rintro e w10 ⟨rfl, hb10⟩
              have HP13 := Lib.hid (And.intro (HP12.out.1.below hb10 (Nat.le_refl _)) (And.intro (HP12.out.2.1.belowAll hb10) (And.intro (HP12.out.2.2.1.below hb10 (Nat.le_refl _)) (And.intro (HP12.out.2.2.2.1.belowAll hb10) (And.intro (HP12.out.2.2.2.2.1.below hb10 (Nat.le_refl _)) (And.intro (HP12.out.2.2.2.2.2.1.belowAll hb10) (HP12.out.2.2.2.2.2.2.trans (hb10.mono HP12.out.2.2.2.2.2.2.size))))))))
              clear HP12 hb10
              go_wp2_with fail
              go_ret
              exact ⟨rfl, HP13.out.2.2.2.2.2.2⟩
            case true =>
              have HZ : Hid (findOf (putOf l s size r) s = ⟨s, (findOf l s).size, r⟩) := by show _ = _; rw [HTH.out.2, hat]; rfl
              have HPN := Lib.hid (put_len (size := size) (r := r) hat)
              obtain ⟨D, HD⟩ : ∃ D, Hid (dropAt l s = D) := ⟨_, Lib.hid rfl⟩
              rw [HD.out] at HDP HDS HDG HDL
              obtain ⟨F, HFO⟩ : ∃ F, Hid (findOf l s = F) := ⟨_, Lib.hid rfl⟩
              obtain ⟨p, HPO⟩ : ∃ p, Hid (putOf l s size r = p) := ⟨_, Lib.hid rfl⟩
              rw [HPO.out] at HTH HSP HDP HPL HZ
              rw [HFO.out] at HZ
              rw [HPO.out] at HPN
              have dzz : (F.size != F.size) = false := by simp
              have HAT := Lib.hid hat
              have HP1 := Lib.hid HTH.out.1
              have hpl := HPL.out
              have hdl := HDL.out
              clear hat HTH HPL HDL
              go_wp2_with fail
              refine (find_v HFO.out HAT.out A c _ (HR.out.below HP2.out) (by omega) HSO.out).mono ?_; rintro e w3 ⟨rfl, hb3⟩
              have HP3 := Lib.hid (HP2.out.trans (hb3.mono HP2.out.size))
              clear HP2 hb3
              have hbx : Below w3.heap.size w3 (w3.alloc (.cells F.cells 46)) := (Below.refl _ _).alloc (Nat.le_refl _) _
              have HP4 := Lib.hid (And.intro (Blk.new w3 46 F.cells) (HP3.out.trans (hbx.mono HP3.out.size)))
              clear HP3 hbx
              go_wp2_with fail
              refine (put_v HPO.out A c _ (HR.out.below HP4.out.2) (by omega) HSO.out).mono ?_; rintro e w4 ⟨A1, c1, rfl, hO, hb4⟩
              have HP5 := Lib.hid (And.intro (hO.mono HP4.out.2.size) (And.intro (HP4.out.1.belowAll hb4) (HP4.out.2.trans (hb4.mono HP4.out.2.size))))
              clear HP4 hb4 hO
              go_wp2_with fail
              refine (find_v HZ.out HP1.out A1 c1 _ HP5.out.1.toRds (by omega) HSP.out).mono ?_; rintro e w5 ⟨rfl, hb5⟩
              have HP6 := Lib.hid (And.intro (HP5.out.1.below hb5 (Nat.le_refl _)) (And.intro (HP5.out.2.1.belowAll hb5) (HP5.out.2.2.trans (hb5.mono HP5.out.2.2.size))))
              clear HP5 hb5
              have hbx : Below w5.heap.size w5 (w5.alloc (.cells (⟨s, F.size, r⟩ : Im).cells 46)) := (Below.refl _ _).alloc (Nat.le_refl _) _
              have HP7 := Lib.hid (And.intro (Blk.new w5 46 (⟨s, F.size, r⟩ : Im).cells) (And.intro (HP6.out.1.below hbx (Nat.le_refl _)) (And.intro (HP6.out.2.1.belowAll hbx) (HP6.out.2.2.trans (hbx.mono HP6.out.2.2.size)))))
              clear HP6 hbx
              go_wp2_with fail
              refine (drop_v HDP.out HP1.out A1 c1 _ HP7.out.2.1.toRds (by omega) HSP.out).mono ?_; rintro e w6 ⟨A2, c2, rfl, hO, hb6⟩
              have HP8 := Lib.hid (And.intro (hO.mono HP7.out.2.2.2.size) (And.intro (HP7.out.1.belowAll hb6) (And.intro (HP7.out.2.1.below hb6 (Nat.le_refl _)) (And.intro (HP7.out.2.2.1.belowAll hb6) (HP7.out.2.2.2.trans (hb6.mono HP7.out.2.2.2.size))))))
              clear HP7 hb6 hO
              go_wp2_with fail
              refine (find_v (findOf_no HDG.out) HDG.out A2 c2 _ HP8.out.1.toRds (by omega) HDS.out).mono ?_; rintro e w7 ⟨rfl, hb7⟩
              have HP9 := Lib.hid (And.intro (HP8.out.1.below hb7 (Nat.le_refl _)) (And.intro (HP8.out.2.1.belowAll hb7) (And.intro (HP8.out.2.2.1.below hb7 (Nat.le_refl _)) (And.intro (HP8.out.2.2.2.1.belowAll hb7) (HP8.out.2.2.2.2.trans (hb7.mono HP8.out.2.2.2.2.size))))))
              clear HP8 hb7
              have hbx : Below w7.heap.size w7 (w7.alloc (.cells zeroIm.cells 46)) := (Below.refl _ _).alloc (Nat.le_refl _) _
              have HP10 := Lib.hid (And.intro (Blk.new w7 46 zeroIm.cells) (And.intro (HP9.out.1.below hbx (Nat.le_refl _)) (And.intro (HP9.out.2.1.belowAll hbx) (And.intro (HP9.out.2.2.1.below hbx (Nat.le_refl _)) (And.intro (HP9.out.2.2.2.1.belowAll hbx) (HP9.out.2.2.2.2.trans (hbx.mono HP9.out.2.2.2.2.size)))))))
              clear HP9 hbx
              have y1 := HP10.out.2.2.2.2.1.cell
              have y2 := HP10.out.2.2.1.cell
              go_wp2_with fail
              refine (drop_v HD.out HAT.out A c _ (HR.out.below HP10.out.2.2.2.2.2) (by omega) HSO.out).mono ?_; rintro e w8 ⟨A3, c3, rfl, hO, hb8⟩
              have HP11 := Lib.hid (And.intro (hO.mono HP10.out.2.2.2.2.2.size) (And.intro (HP10.out.1.belowAll hb8) (And.intro (HP10.out.2.1.below hb8 (Nat.le_refl _)) (And.intro (HP10.out.2.2.1.belowAll hb8) (And.intro (HP10.out.2.2.2.1.below hb8 (Nat.le_refl _)) (And.intro (HP10.out.2.2.2.2.1.belowAll hb8) (HP10.out.2.2.2.2.2.trans (hb8.mono HP10.out.2.2.2.2.2.size))))))))
              clear HP10 hb8 hO y1 y2
              go_wp2_with fail
              refine (sameI_self D A2 A3 c2 c3 _ HP11.out.2.2.1.toRds HP11.out.1.toRds (by omega)).mono ?_; rintro e w9 ⟨rfl, hb9⟩
              have HP12 := Lib.hid (And.intro (HP11.out.1.below hb9 (Nat.le_refl _)) (And.intro (HP11.out.2.1.belowAll hb9) (And.intro (HP11.out.2.2.1.below hb9 (Nat.le_refl _)) (And.intro (HP11.out.2.2.2.1.belowAll hb9) (And.intro (HP11.out.2.2.2.2.1.below hb9 (Nat.le_refl _)) (And.intro (HP11.out.2.2.2.2.2.1.belowAll hb9) (HP11.out.2.2.2.2.2.2.trans (hb9.mono HP11.out.2.2.2.2.2.2.size))))))))
              clear HP11 hb9
              have dpn : ((p.length : Int) == (l.length : Int)) = true := beq_iff_eq.2 (by have := HPN.out; omega)
              go_wp2_with fail
              go_ret
              exact ⟨rfl, HP12.out.2.2.2.2.2.2⟩
end Go.Proofs.Ytfaklhdafpbkmaa
