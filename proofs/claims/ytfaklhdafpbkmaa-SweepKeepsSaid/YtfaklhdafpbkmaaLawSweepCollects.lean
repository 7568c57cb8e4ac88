/- bilgelaw22.SweepCollects: of whatever images, used names, need and answers: what Collect names, sums and asks. -/
import Derived.Test.YtfaklhdafpbkmaaLawSweepDead
import Derived.Test.YtfaklhdafpbkmaaRefCollect
import Derived.Test.YtfaklhdafpbkmaaImgFew
namespace Go.Proofs.Ytfaklhdafpbkmaa
open Go.RowKit

theorem fewI_b (l : List Im) (A : Option Addr) (c : Nat) (w : World) (hr : Rds w encI A l) (hm : l.length ≤ 9223372036854775807) :
    Calls Try.prog 29 #[.slice A l.length c] w fun e w' => e = .returned (.bool (fewIB l)) ∧ Below w.heap.size w w' :=
  (fewI_any l A c w hr hm).mono fun _ _ ⟨h1, h2⟩ => ⟨h1, by subst h2; exact Below.refl _ _⟩
theorem rightI_b (l : List Im) (A : Option Addr) (c : Nat) (w : World) (hr : Rds w encI A l) (hm : l.length ≤ 9223372036854775807) :
    Calls Try.prog 30 #[.slice A l.length c] w fun e w' => e = .returned (.bool (rightIB l)) ∧ Below w.heap.size w w' :=
  (rightI_any l A c w hr hm).mono fun _ _ ⟨h1, h2⟩ => ⟨h1, below_ofDrewN h2⟩
theorem fewIB_len {l : List Im} (h : fewIB l = true) : l.length ≤ 60 := by
  unfold fewIB at h; simp only [Bool.and_eq_true, decide_eq_true_eq] at h; exact h.2
theorem rightIB_step {l : List Im} (h : rightIB l = true) (j : Nat) (hj : j + 1 < l.length) : blt l[j].name l[j + 1].name = true := by
  have hk := List.all_eq_true.1 h (j + 1) (List.mem_range.2 hj)
  unfold okIm at hk
  rw [List.getElem?_eq_getElem hj] at hk
  simp only [Bool.and_eq_true] at hk
  have h2 := hk.2
  rw [List.getElem?_eq_getElem (by omega)] at h2
  exact h2
theorem rightIB_blt {l : List Im} (h : rightIB l = true) : ∀ (d i : Nat) (hj : i + d + 1 < l.length), blt (l[i]'(by omega)).name (l[i + d + 1]'hj).name = true := by
  intro d
  induction d with
  | zero => intro i hj; exact rightIB_step h i hj
  | succ d ih => intro i hj; exact blt_trans (ih i (by omega)) (rightIB_step h (i + d + 1) hj)
theorem rightIB_nodup {l : List Im} (h : rightIB l = true) : (l.map Im.name).Nodup := by
  unfold List.Nodup
  rw [List.pairwise_map, List.pairwise_iff_getElem]
  intro i j hi hj hij he
  have := rightIB_blt h (j - i - 1) i (by omega)
  simp only [show i + (j - i - 1) + 1 = j by omega] at this
  rw [he, blt_irrefl] at this
  cases this
/-- what a Collect says -/
structure CG (o : List Im) (well : List Bool) (need : Int) (k : Nat) (G : List ByteArray) (F : Int) : Prop where
  st : Stops o well need k
  eq : (G, F) = colG o well k
theorem CG.len {o : List Im} {well : List Bool} {need : Int} {k : Nat} {G : List ByteArray} {F : Int} (h : CG o well need k G F) : G.length ≤ o.length := by
  have h1 := colG_len o well k
  rw [← h.eq] at h1
  have := h.st.le
  simp only at h1
  omega
theorem collectE_any (l : List Im) (pods : List ByteArray) (need : Int) (well : List Bool) (A B C : Option Addr) (c d f0 : Nat) (w : World) (hr : Rds w encI A l) (hs : Rds w encS B pods) (hw : Rds w encBo C well) (hl : l.length ≤ 100000) (hm : pods.length ≤ 9223372036854775807) (hq : well.length ≤ 9223372036854775807) (hwf : ∀ x ∈ l, I64 x.size) (hneed : I64 need) :
    Calls Try.prog 31 #[.slice A l.length c, .slice B pods.length d, .int .i64 need, .slice C well.length f0] w fun e w' =>
      ∃ (k : Nat) (G : List ByteArray) (F : Int) (A' : Option Addr) (c' : Nat), e = .returned (.tuple #[.slice A' G.length c', .int .i64 F, .int .i64 k]) ∧ CG (orderOf l pods) well need k G F ∧ Own w' w.heap.size 9 encS (.slice A' G.length c') G ∧ Below w.heap.size w w' :=
  (collect_any l pods need well A B C c d f0 w hr hs hw hl hm hq hwf hneed).mono fun _ _ ⟨k, A', c', h1, h2, h3, h4⟩ => ⟨k, _, _, A', c', h2, ⟨h1, rfl⟩, h3, h4⟩
theorem refCollectE_any (l : List Im) (pods : List ByteArray) (need : Int) (well : List Bool) (A B C : Option Addr) (c d f0 : Nat) (w : World) (hr : Rds w encI A l) (hs : Rds w encS B pods) (hw : Rds w encBo C well) (hl : l.length ≤ 100000) (hm : pods.length ≤ 9223372036854775807) (hq : well.length ≤ 9223372036854775807) (hwf : ∀ x ∈ l, I64 x.size) (hneed : I64 need) (hn : (l.map Im.name).Nodup)
    (k : Nat) (G : List ByteArray) (F : Int) (h : CG (orderOf l pods) well need k G F) :
    Calls Try.prog 32 #[.slice A l.length c, .slice B pods.length d, .int .i64 need, .slice C well.length f0] w fun e w' =>
      ∃ (A' : Option Addr) (c' : Nat), e = .returned (.tuple #[.slice A' G.length c', .int .i64 F, .int .i64 k]) ∧ Own w' w.heap.size 9 encS (.slice A' G.length c') G ∧ Below w.heap.size w w' :=
  (refCollect_any l pods need well A B C c d f0 w hr hs hw hl hm hq hwf hneed hn).mono fun _ _ ⟨k', A', c', h1, h2, h3, h4⟩ => by
    have e := h1.unique h.st
    subst e
    have e := h.eq
    have eG : G = (colG (orderOf l pods) well k').1 := by rw [← e]
    have eF : F = (colG (orderOf l pods) well k').2 := by rw [← e]
    rw [← eG, ← eF] at h2
    rw [← eG] at h3
    exact ⟨A', c', h2, h3, h4⟩

set_option maxRecDepth 100000 in
set_option maxHeartbeats 8000000 in
theorem sweepCollects_any (l : List Im) (pods : List ByteArray) (need : Int) (well : List Bool) (A B C : Option Addr) (c d f0 : Nat) (w : World) (hr : Rds w encI A l) (hs : Rds w encS B pods) (hw : Rds w encBo C well) (hl : l.length ≤ 9223372036854775807) (hm : pods.length ≤ 9223372036854775807) (hq : well.length ≤ 9223372036854775807) (hwf : ∀ x ∈ l, I64 x.size) (hneed : I64 need) :
    Calls Try.prog 6 #[.slice A l.length c, .slice B pods.length d, .int .i64 need, .slice C well.length f0] w fun e w' => e = .returned (.bool true) ∧ Below w.heap.size w w' := by
  have HR := Lib.hid hr
  have HS := Lib.hid hs
  have HV := Lib.hid hw
  have HX := Lib.hid hwf
  clear hr hs hw hwf
  go_enter Try.func6, Try.ntmps6
  go_wp2_with fail
  refine (awake22_any _).mono ?_; rintro e w0 ⟨rfl, hb0⟩
  have HP0 := Lib.hid (And.intro (HR.out.below hb0) (And.intro (HS.out.below hb0) (And.intro (HV.out.below hb0) (hb0))))
  clear hb0 HR HS HV
  go_wp2_with fail
  refine (fewI_b l A c _ HP0.out.1 hl).mono ?_; rintro e w1 ⟨rfl, hb1⟩
  have HP1 := Lib.hid (And.intro (HP0.out.1.below hb1) (And.intro (HP0.out.2.1.below hb1) (And.intro (HP0.out.2.2.1.below hb1) (HP0.out.2.2.2.trans (hb1.mono HP0.out.2.2.2.size)))))
  clear HP0 hb1
  cases hcond : fewIB l
  case false =>
    clear hcond
    go_wp2_with fail
    refine (awake22_any _).mono ?_; rintro e w2 ⟨rfl, hb2⟩
    have HP2 := Lib.hid (And.intro (HP1.out.1.below hb2) (And.intro (HP1.out.2.1.below hb2) (And.intro (HP1.out.2.2.1.below hb2) (HP1.out.2.2.2.trans (hb2.mono HP1.out.2.2.2.size)))))
    clear HP1 hb2
    go_wp2_with fail
    go_ret
    exact ⟨rfl, HP2.out.2.2.2⟩
  case true =>
    have HF := Lib.hid hcond
    clear hcond
    go_wp2_with fail
    refine (rightI_b l A c _ HP1.out.1 hl).mono ?_; rintro e w2 ⟨rfl, hb2⟩
    have HP2 := Lib.hid (And.intro (HP1.out.1.below hb2) (And.intro (HP1.out.2.1.below hb2) (And.intro (HP1.out.2.2.1.below hb2) (HP1.out.2.2.2.trans (hb2.mono HP1.out.2.2.2.size)))))
    clear HP1 hb2
    cases hcond : rightIB l
    case false =>
      clear hcond
      go_wp2_with fail
      refine (awake22_any _).mono ?_; rintro e w3 ⟨rfl, hb3⟩
      have HP3 := Lib.hid (And.intro (HP2.out.1.below hb3) (And.intro (HP2.out.2.1.below hb3) (And.intro (HP2.out.2.2.1.below hb3) (HP2.out.2.2.2.trans (hb3.mono HP2.out.2.2.2.size)))))
      clear HP2 hb3
      go_wp2_with fail
      go_ret
      exact ⟨rfl, HP3.out.2.2.2⟩
    case true =>
      have HG := Lib.hid hcond
      clear hcond
      go_wp2_with fail
      refine (names_b pods B d _ HP2.out.2.1 hm).mono ?_; rintro e w3 ⟨rfl, hb3⟩
      have HP3 := Lib.hid (And.intro (HP2.out.1.below hb3) (And.intro (HP2.out.2.1.below hb3) (And.intro (HP2.out.2.2.1.below hb3) (HP2.out.2.2.2.trans (hb3.mono HP2.out.2.2.2.size)))))
      clear HP2 hb3
      cases hcond : namesB pods
      case false =>
        clear hcond
        go_wp2_with fail
        refine (awake22_any _).mono ?_; rintro e w4 ⟨rfl, hb4⟩
        have HP4 := Lib.hid (And.intro (HP3.out.1.below hb4) (And.intro (HP3.out.2.1.below hb4) (And.intro (HP3.out.2.2.1.below hb4) (HP3.out.2.2.2.trans (hb4.mono HP3.out.2.2.2.size)))))
        clear HP3 hb4
        go_wp2_with fail
        go_ret
        exact ⟨rfl, HP4.out.2.2.2⟩
      case true =>
        have HN := Lib.hid hcond
        clear hcond
        by_cases hcond : (200 : Int) < (well.length : Int)
        · have dq : decide ((200 : Int) < (well.length : Int)) = true := decide_eq_true hcond
          have dqn : decide (200 < well.length) = true := decide_eq_true (by omega)
          have dqm : (200 : Int) < (well.length : Int) := hcond
          clear hcond
          go_wp2_with fail
          refine (awake22_any _).mono ?_; rintro e w4 ⟨rfl, hb4⟩
          have HP4 := Lib.hid (And.intro (HP3.out.1.below hb4) (And.intro (HP3.out.2.1.below hb4) (And.intro (HP3.out.2.2.1.below hb4) (HP3.out.2.2.2.trans (hb4.mono HP3.out.2.2.2.size)))))
          clear HP3 hb4
          go_wp2_with fail
          go_ret
          exact ⟨rfl, HP4.out.2.2.2⟩
        · have dq : decide ((200 : Int) < (well.length : Int)) = false := decide_eq_false hcond
          have dqn : decide (200 < well.length) = false := decide_eq_false (by omega)
          have dqm : (well.length : Int) ≤ 200 := by omega
          clear hcond
          have hl1 : l.length ≤ 100000 := by have := fewIB_len HF.out; omega
          have hnd := Lib.hid (rightIB_nodup HG.out)
          go_wp2_with fail
          refine (collectE_any l pods need well A B C c d f0 _ HP3.out.1 HP3.out.2.1 HP3.out.2.2.1 hl1 hm hq HX.out hneed).mono ?_; rintro e w4 ⟨k1, G1, F1, A1, c1, rfl, hcg, hO1, hb4⟩
          have HP4 := Lib.hid (And.intro (hO1.mono HP3.out.2.2.2.size) (And.intro (HP3.out.1.below hb4) (And.intro (HP3.out.2.1.below hb4) (And.intro (HP3.out.2.2.1.below hb4) (HP3.out.2.2.2.trans (hb4.mono HP3.out.2.2.2.size))))))
          clear HP3 hb4 hO1
          have HC := Lib.hid hcg
          clear hcg
          go_wp2_with fail
          refine (refCollectE_any l pods need well A B C c d f0 _ HP4.out.2.1 HP4.out.2.2.1 HP4.out.2.2.2.1 hl1 hm hq HX.out hneed hnd.out k1 G1 F1 HC.out).mono ?_; rintro e w5 ⟨A2, c2, rfl, hO2, hb5⟩
          have HP5 := Lib.hid (And.intro (hO2.mono HP4.out.2.2.2.2.size) (And.intro (HP4.out.1.below hb5 (Nat.le_refl _)) (And.intro (HP4.out.2.1.below hb5) (And.intro (HP4.out.2.2.1.below hb5) (And.intro (HP4.out.2.2.2.1.below hb5) (HP4.out.2.2.2.2.trans (hb5.mono HP4.out.2.2.2.2.size)))))))
          clear HP4 hb5 hO2
          have hil : G1.length ≤ 9223372036854775807 := by have := HC.out.len; have := orderOf_len l pods; omega
          go_wp2_with fail
          refine (sameTexts_self G1 A1 A2 c1 c2 _ HP5.out.2.1.toRds HP5.out.1.toRds hil).mono ?_; rintro e w6 ⟨rfl, hb6⟩
          have HP6 := Lib.hid (And.intro (HP5.out.2.2.1.below hb6) (And.intro (HP5.out.2.2.2.1.below hb6) (And.intro (HP5.out.2.2.2.2.1.below hb6) (HP5.out.2.2.2.2.2.trans (hb6.mono HP5.out.2.2.2.2.2.size)))))
          clear HP5 hb6
          go_wp2_with fail
          go_ret
          exact ⟨rfl, HP6.out.2.2.2⟩
end Go.Proofs.Ytfaklhdafpbkmaa
