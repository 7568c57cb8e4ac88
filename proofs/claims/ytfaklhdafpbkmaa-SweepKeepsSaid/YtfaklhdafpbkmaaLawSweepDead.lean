/- bilgelaw22.SweepDead: of whatever containers and pods: which are lost, which are dead, in their order; which of these go. -/
import Derived.Test.YtfaklhdafpbkmaaAwake22
import Derived.Test.YtfaklhdafpbkmaaAgain
namespace Go.Proofs.Ytfaklhdafpbkmaa
open Go.RowKit

theorem fit_b (l : List Cn) (A : Option Addr) (c : Nat) (w : World) (hr : Rds w encC A l) (hm : l.length ≤ 9223372036854775807) :
    Calls Try.prog 18 #[.slice A l.length c] w fun e w' => e = .returned (.bool (fitB l)) ∧ Below w.heap.size w w' :=
  (fit_any l A c w hr hm).mono fun _ _ ⟨h1, h2⟩ => ⟨h1, below_ofDrewN h2⟩
theorem names_b (l : List ByteArray) (A : Option Addr) (c : Nat) (w : World) (hr : Rds w encS A l) (hm : l.length ≤ 9223372036854775807) :
    Calls Try.prog 19 #[.slice A l.length c] w fun e w' => e = .returned (.bool (namesB l)) ∧ Below w.heap.size w w' :=
  (names_any l A c w hr hm).mono fun _ _ ⟨h1, h2⟩ => ⟨h1, by subst h2; exact Below.refl _ _⟩
theorem sameTexts_self (l : List ByteArray) (A B : Option Addr) (c d : Nat) (w : World) (hr : Rds w encS A l) (hs : Rds w encS B l) (hl : l.length ≤ 9223372036854775807) :
    Calls Try.prog 20 #[.slice A l.length c, .slice B l.length d] w fun e w' => e = .returned (.bool true) ∧ Below w.heap.size w w' :=
  (sameTexts_b l l A B c d w hr hs hl hl).mono fun _ _ ⟨h1, h2⟩ => ⟨h1.trans (by rw [decide_eq_true rfl]), h2⟩
theorem deadD_any (l : List Cn) (pods : List ByteArray) (A B : Option Addr) (c d : Nat) (w : World) (hr : Rds w encC A l) (hs : Rds w encS B pods) (hl : l.length ≤ 100000) (hm : pods.length ≤ 9223372036854775807) (hn : (l.map Cn.id).Nodup) :
    Calls Try.prog 23 #[.slice A l.length c, .slice B pods.length d] w (GivesTexts (deadOf l pods) w) :=
  (dead_any l pods A B c d w hr hs hl hm).mono fun _ _ ⟨m, hm, h⟩ => by rw [← sortedDead_eq hn hm]; exact h
theorem refDeadD_any (l : List Cn) (pods : List ByteArray) (A B : Option Addr) (c d : Nat) (w : World) (hr : Rds w encC A l) (hs : Rds w encS B pods) (hl : l.length ≤ 100000) (hm : pods.length ≤ 9223372036854775807) (hn : (l.map Cn.id).Nodup) :
    Calls Try.prog 24 #[.slice A l.length c, .slice B pods.length d] w (GivesTexts (deadOf l pods) w) :=
  (refDead_any l pods A B c d w hr hs hl hm).mono fun _ _ ⟨m, hm, h⟩ => by rw [← allTold_eq hn hm]; exact h
def extraOf (l : List Cn) (pods : List ByteArray) (keep : Int) : List ByteArray := (deadOf l pods).take (goes (deadOf l pods).length keep)
theorem extraD_any (l : List Cn) (pods : List ByteArray) (keep : Int) (A B : Option Addr) (c d : Nat) (w : World) (hr : Rds w encC A l) (hs : Rds w encS B pods) (hl : l.length ≤ 100000) (hm : pods.length ≤ 9223372036854775807) (hk : I64 keep) (hn : (l.map Cn.id).Nodup) :
    Calls Try.prog 25 #[.slice A l.length c, .slice B pods.length d, .int .i64 keep] w (GivesTexts (extraOf l pods keep) w) :=
  (extra_any l pods keep A B c d w hr hs hl hm hk).mono fun _ _ ⟨m, hm, h⟩ => by unfold extraOf; rw [← sortedDead_eq hn hm]; exact h
theorem refExtraD_any (l : List Cn) (pods : List ByteArray) (keep : Int) (A B : Option Addr) (c d : Nat) (w : World) (hr : Rds w encC A l) (hs : Rds w encS B pods) (hl : l.length ≤ 100000) (hm : pods.length ≤ 9223372036854775807) (hk : I64 keep) (hn : (l.map Cn.id).Nodup) :
    Calls Try.prog 26 #[.slice A l.length c, .slice B pods.length d, .int .i64 keep] w (GivesTexts (extraOf l pods keep) w) :=
  (refExtra_any l pods keep A B c d w hr hs hl hm hk).mono fun _ _ ⟨m, hm, h⟩ => by unfold extraOf; rw [← allTold_eq hn hm]; exact h
theorem deadOf_len (l : List Cn) (pods : List ByteArray) : (deadOf l pods).length ≤ l.length := by
  unfold deadOf
  rw [List.length_map, (List.mergeSort_perm _ _).length_eq]
  exact List.length_filter_le _ _
theorem namesB_len {l : List ByteArray} (h : namesB l = true) : l.length ≤ 60 := by
  unfold namesB at h; simp only [Bool.and_eq_true, decide_eq_true_eq] at h; exact h.2

set_option maxRecDepth 100000 in
set_option maxHeartbeats 8000000 in
theorem sweepDead_any (l : List Cn) (pods : List ByteArray) (keep : Int) (A B : Option Addr) (c d : Nat) (w : World) (hr : Rds w encC A l) (hs : Rds w encS B pods) (hl : l.length ≤ 9223372036854775807) (hm : pods.length ≤ 9223372036854775807) (hk : I64 keep) :
    Calls Try.prog 3 #[.slice A l.length c, .slice B pods.length d, .int .i64 keep] w fun e w' => e = .returned (.bool true) ∧ Below w.heap.size w w' := by
  have HR := Lib.hid hr
  have HS := Lib.hid hs
  clear hr hs
  go_enter Try.func3, Try.ntmps3
  go_wp2_with fail
  refine (awake22_any _).mono ?_; rintro e w0 ⟨rfl, hb0⟩
  have HP0 := Lib.hid (And.intro (HR.out.below hb0) (And.intro (HS.out.below hb0) (hb0)))
  clear hb0 HR HS
  go_wp2_with fail
  refine (fit_b l A c _ HP0.out.1 hl).mono ?_; rintro e w1 ⟨rfl, hb1⟩
  have HP1 := Lib.hid (And.intro (HP0.out.1.below hb1) (And.intro (HP0.out.2.1.below hb1) (HP0.out.2.2.trans (hb1.mono HP0.out.2.2.size))))
  clear HP0 hb1
  cases hcond : fitB l
  case false =>
    clear hcond
    go_wp2_with fail
    refine (awake22_any _).mono ?_; rintro e w2 ⟨rfl, hb2⟩
    have HP2 := Lib.hid (And.intro (HP1.out.1.below hb2) (And.intro (HP1.out.2.1.below hb2) (HP1.out.2.2.trans (hb2.mono HP1.out.2.2.size))))
    clear HP1 hb2
    go_wp2_with fail
    go_ret
    exact ⟨rfl, HP2.out.2.2⟩
  case true =>
    have HF := Lib.hid hcond
    clear hcond
    go_wp2_with fail
    refine (names_b pods B d _ HP1.out.2.1 hm).mono ?_; rintro e w2 ⟨rfl, hb2⟩
    have HP2 := Lib.hid (And.intro (HP1.out.1.below hb2) (And.intro (HP1.out.2.1.below hb2) (HP1.out.2.2.trans (hb2.mono HP1.out.2.2.size))))
    clear HP1 hb2
    cases hcond : namesB pods
    case false =>
      clear hcond
      go_wp2_with fail
      refine (awake22_any _).mono ?_; rintro e w3 ⟨rfl, hb3⟩
      have HP3 := Lib.hid (And.intro (HP2.out.1.below hb3) (And.intro (HP2.out.2.1.below hb3) (HP2.out.2.2.trans (hb3.mono HP2.out.2.2.size))))
      clear HP2 hb3
      go_wp2_with fail
      go_ret
      exact ⟨rfl, HP3.out.2.2⟩
    case true =>
      have HN := Lib.hid hcond
      clear hcond
      have hl1 : l.length ≤ 100000 := by have := fitB_len HF.out; omega
      have hnd := Lib.hid (fit_nodup HF.out)
      go_wp2_with fail
      refine (lost_any l pods A B c d _ HP2.out.1 HP2.out.2.1 hl1 hm).mono ?_; rintro e w3 ⟨A1, c1, rfl, hO1, hb3⟩
      have HP3 := Lib.hid (And.intro (hO1.mono HP2.out.2.2.size) (And.intro (HP2.out.1.below hb3) (And.intro (HP2.out.2.1.below hb3) (HP2.out.2.2.trans (hb3.mono HP2.out.2.2.size)))))
      clear HP2 hb3 hO1
      go_wp2_with fail
      refine (refLost_any l pods A B c d _ HP3.out.2.1 HP3.out.2.2.1 hl1 hm).mono ?_; rintro e w4 ⟨A2, c2, rfl, hO2, hb4⟩
      have HP4 := Lib.hid (And.intro (hO2.mono HP3.out.2.2.2.size) (And.intro (HP3.out.1.below hb4 (Nat.le_refl _)) (And.intro (HP3.out.2.1.below hb4) (And.intro (HP3.out.2.2.1.below hb4) (HP3.out.2.2.2.trans (hb4.mono HP3.out.2.2.2.size))))))
      clear HP3 hb4 hO2
      have hil : (idsOf (isLost pods) l).length ≤ 9223372036854775807 := by have := idsOf_len (isLost pods) l; omega
      go_wp2_with fail
      refine (sameTexts_self _ A1 A2 c1 c2 _ HP4.out.2.1.toRds HP4.out.1.toRds hil).mono ?_; rintro e w5 ⟨rfl, hb5⟩
      have HP5 := Lib.hid (And.intro (HP4.out.2.2.1.below hb5) (And.intro (HP4.out.2.2.2.1.below hb5) (HP4.out.2.2.2.2.trans (hb5.mono HP4.out.2.2.2.2.size))))
      clear HP4 hb5
      go_wp2_with fail
      refine (deadD_any l pods A B c d _ HP5.out.1 HP5.out.2.1 hl1 hm hnd.out).mono ?_; rintro e w6 ⟨A3, c3, rfl, hO1, hb6⟩
      have HP6 := Lib.hid (And.intro (hO1.mono HP5.out.2.2.size) (And.intro (HP5.out.1.below hb6) (And.intro (HP5.out.2.1.below hb6) (HP5.out.2.2.trans (hb6.mono HP5.out.2.2.size)))))
      clear HP5 hb6 hO1
      go_wp2_with fail
      refine (refDeadD_any l pods A B c d _ HP6.out.2.1 HP6.out.2.2.1 hl1 hm hnd.out).mono ?_; rintro e w7 ⟨A4, c4, rfl, hO2, hb7⟩
      have HP7 := Lib.hid (And.intro (hO2.mono HP6.out.2.2.2.size) (And.intro (HP6.out.1.below hb7 (Nat.le_refl _)) (And.intro (HP6.out.2.1.below hb7) (And.intro (HP6.out.2.2.1.below hb7) (HP6.out.2.2.2.trans (hb7.mono HP6.out.2.2.2.size))))))
      clear HP6 hb7 hO2
      have hml2 : (deadOf l pods).length ≤ 9223372036854775807 := by have := deadOf_len l pods; omega
      go_wp2_with fail
      refine (sameTexts_self _ A3 A4 c3 c4 _ HP7.out.2.1.toRds HP7.out.1.toRds hml2).mono ?_; rintro e w8 ⟨rfl, hb8⟩
      have HP8 := Lib.hid (And.intro (HP7.out.2.2.1.below hb8) (And.intro (HP7.out.2.2.2.1.below hb8) (HP7.out.2.2.2.2.trans (hb8.mono HP7.out.2.2.2.2.size))))
      clear HP7 hb8
      go_wp2_with fail
      refine (extraD_any l pods keep A B c d _ HP8.out.1 HP8.out.2.1 hl1 hm hk hnd.out).mono ?_; rintro e w9 ⟨A5, c5, rfl, hO1, hb9⟩
      have HP9 := Lib.hid (And.intro (hO1.mono HP8.out.2.2.size) (And.intro (HP8.out.1.below hb9) (And.intro (HP8.out.2.1.below hb9) (HP8.out.2.2.trans (hb9.mono HP8.out.2.2.size)))))
      clear HP8 hb9 hO1
      go_wp2_with fail
      refine (refExtraD_any l pods keep A B c d _ HP9.out.2.1 HP9.out.2.2.1 hl1 hm hk hnd.out).mono ?_; rintro e w10 ⟨A6, c6, rfl, hO2, hb10⟩
      have HP10 := Lib.hid (And.intro (hO2.mono HP9.out.2.2.2.size) (And.intro (HP9.out.1.below hb10 (Nat.le_refl _)) (And.intro (HP9.out.2.1.below hb10) (And.intro (HP9.out.2.2.1.below hb10) (HP9.out.2.2.2.trans (hb10.mono HP9.out.2.2.2.size))))))
      clear HP9 hb10 hO2
      have hml4 : (extraOf l pods keep).length ≤ 9223372036854775807 := by have := deadOf_len l pods; unfold extraOf; rw [List.length_take]; omega
      go_wp2_with fail
      refine (sameTexts_self _ A5 A6 c5 c6 _ HP10.out.2.1.toRds HP10.out.1.toRds hml4).mono ?_; rintro e w11 ⟨rfl, hb11⟩
      have HP11 := Lib.hid (And.intro (HP10.out.2.2.1.below hb11) (And.intro (HP10.out.2.2.2.1.below hb11) (HP10.out.2.2.2.2.trans (hb11.mono HP10.out.2.2.2.2.size))))
      clear HP10 hb11
      go_wp2_with fail
      go_ret
      exact ⟨rfl, HP11.out.2.2⟩
end Go.Proofs.Ytfaklhdafpbkmaa
