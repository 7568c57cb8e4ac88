/- bilgelaw22.SweepKeeps: of whatever containers, images, pods and answers: what is handed in stays; what is answered is new memory. -/
import Derived.Test.YtfaklhdafpbkmaaPartsLaw
import Derived.Test.YtfaklhdafpbkmaaLawSweepCollects
import Derived.Test.YtfaklhdafpbkmaaSameI
import Derived.Test.YtfaklhdafpbkmaaOwnSet
import Derived.Outline
namespace Go.Proofs.Ytfaklhdafpbkmaa
open Go.RowKit

theorem elemBo : Elem Try.prog 40 4 1 1 := by
  obtain ⟨i, h1, h2, h3, h4⟩ := info_parts (show (Try.prog.info? 4).map (fun i => (i.zero, i.size, i.bytes)) = some (some (.bool false), 1, 1) by kernel_rfl)
  exact ⟨Try.underlying40, i, _, h1, h2, h3, h4, rfl⟩
theorem szC : (Try.prog.info? 35).map (·.size) = some 4 := by kernel_rfl
theorem szI : (Try.prog.info? 46).map (·.size) = some 3 := by kernel_rfl
abbrev zC : Cn := ⟨⟨#[]⟩, 0, 0, 0⟩
abbrev zI : Im := ⟨⟨#[]⟩, 0, 0⟩
abbrev zS : ByteArray := ⟨#[63]⟩
/-- the first k written over -/
def over {α : Type} (z : α) (l : List α) (k : Nat) : List α := List.replicate k z ++ l.drop k
theorem over_len {α : Type} (z : α) (l : List α) (k : Nat) (hk : k ≤ l.length) : (over z l k).length = l.length := by unfold over; simp; omega
theorem over_at {α : Type} (z : α) (l : List α) (k : Nat) (hk : k < l.length) (h : k < (over z l k).length) : (over z l k)[k] = l[k] := by
  simp only [over]
  rw [List.getElem_append_right (by simp)]
  simp
theorem over_set {α : Type} (z : α) (l : List α) (k : Nat) (hk : k < l.length) : (over z l k).set k z = over z l (k + 1) := by
  unfold over
  rw [List.set_append_right _ _ (by simp), List.length_replicate, Nat.sub_self, List.drop_eq_getElem_cons hk, List.set_cons_zero, List.replicate_succ', List.append_assoc]
  rfl
structure Kept (W : World) (b1 b2 b3 b4 b5 b6 : Nat) (va vb vc vd vx vy : Value) (la : List Cn) (lb : List Im) (lc : List ByteArray) (ld : List Bool) (lx ly : List ByteArray) (w : World) : Prop where
  a : Own w b1 35 encC va la
  b : Own w b2 46 encI vb lb
  c : Own w b3 9 encS vc lc
  d : Own w b4 4 encBo vd ld
  x : Own w b5 9 encS vx lx
  y : Own w b6 9 encS vy ly
  B : Below W.heap.size W w
section
variable {W w w' : World} {b1 b2 b3 b4 b5 b6 : Nat} {va vb vc vd vx vy : Value} {la : List Cn} {lb : List Im} {lc : List ByteArray} {ld : List Bool} {lx ly : List ByteArray}
theorem Kept.below (h : Kept W b1 b2 b3 b4 b5 b6 va vb vc vd vx vy la lb lc ld lx ly w) (hb : Below w.heap.size w w') : Kept W b1 b2 b3 b4 b5 b6 va vb vc vd vx vy la lb lc ld lx ly w' :=
  ⟨h.a.below hb (Nat.le_refl _), h.b.below hb (Nat.le_refl _), h.c.below hb (Nat.le_refl _), h.d.below hb (Nat.le_refl _), h.x.below hb (Nat.le_refl _), h.y.below hb (Nat.le_refl _), h.B.trans (hb.mono h.B.size)⟩
theorem Kept.setA {g n c : Nat} (h : Kept W b1 b2 b3 b4 b5 b6 (.slice (some ⟨g, 0, none⟩) n c) vb vc vd vx vy la lb lc ld lx ly w) (hn : la.length = n) (hne : la ≠ []) (hW : W.heap.size ≤ b1) {la' : List Cn} (h1 : Own w' b1 35 encC (.slice (some ⟨g, 0, none⟩) n c) la') (hg : w.grownBy w' (some g)) :
    Kept W b1 b2 b3 b4 b5 b6 (.slice (some ⟨g, 0, none⟩) n c) vb vc vd vx vy la' lb lc ld lx ly w' :=
  ⟨h1, h.b.setOther hg h.a hn hne (by decide), h.c.setOther hg h.a hn hne (by decide), h.d.setOther hg h.a hn hne (by decide), h.x.setOther hg h.a hn hne (by decide), h.y.setOther hg h.a hn hne (by decide),
    h.B.grown hg h.B.size (fun k hk => by injection hk with hk; subst hk; have := (h.a.block_lt g rfl).1; omega)⟩
theorem Kept.setB {g n c : Nat} (h : Kept W b1 b2 b3 b4 b5 b6 va (.slice (some ⟨g, 0, none⟩) n c) vc vd vx vy la lb lc ld lx ly w) (hn : lb.length = n) (hne : lb ≠ []) (hW : W.heap.size ≤ b2) {lb' : List Im} (h1 : Own w' b2 46 encI (.slice (some ⟨g, 0, none⟩) n c) lb') (hg : w.grownBy w' (some g)) :
    Kept W b1 b2 b3 b4 b5 b6 va (.slice (some ⟨g, 0, none⟩) n c) vc vd vx vy la lb' lc ld lx ly w' :=
  ⟨h.a.setOther hg h.b hn hne (by decide), h1, h.c.setOther hg h.b hn hne (by decide), h.d.setOther hg h.b hn hne (by decide), h.x.setOther hg h.b hn hne (by decide), h.y.setOther hg h.b hn hne (by decide),
    h.B.grown hg h.B.size (fun k hk => by injection hk with hk; subst hk; have := (h.b.block_lt g rfl).1; omega)⟩
theorem Kept.setC {g n c : Nat} (h : Kept W b1 b2 b3 b4 b5 b6 va vb (.slice (some ⟨g, 0, none⟩) n c) vd vx vy la lb lc ld lx ly w) (hn : lc.length = n) (hne : lc ≠ []) (hW : W.heap.size ≤ b3) (h5 : g < b5) (h6 : g < b6) {lc' : List ByteArray} (h1 : Own w' b3 9 encS (.slice (some ⟨g, 0, none⟩) n c) lc') (hg : w.grownBy w' (some g)) :
    Kept W b1 b2 b3 b4 b5 b6 va vb (.slice (some ⟨g, 0, none⟩) n c) vd vx vy la lb lc' ld lx ly w' :=
  ⟨h.a.setOther hg h.c hn hne (by decide), h.b.setOther hg h.c hn hne (by decide), h1, h.d.setOther hg h.c hn hne (by decide), h.x.setApart hg h5, h.y.setApart hg h6,
    h.B.grown hg h.B.size (fun k hk => by injection hk with hk; subst hk; have := (h.c.block_lt g rfl).1; omega)⟩
end

theorem nine : I64 9 := by unfold I64; omega
theorem one : I64 1 := by unfold I64; omega
theorem refDeadX_any (l : List Cn) (pods : List ByteArray) (m : List ByteArray) (hx : m = deadOf l pods) (A B : Option Addr) (c d : Nat) (w : World) (hr : Rds w encC A l) (hs : Rds w encS B pods) (hl : l.length ≤ 100000) (hm : pods.length ≤ 9223372036854775807) (hn : (l.map Cn.id).Nodup) :
    Calls Try.prog 24 #[.slice A l.length c, .slice B pods.length d] w fun e w' => ∃ (A' : Option Addr) (c' : Nat), e = .returned (.slice A' m.length c') ∧ Own w' w.heap.size 9 encS (.slice A' m.length c') m ∧ Below w.heap.size w w' := by
  subst hx
  exact (refDeadD_any l pods A B c d w hr hs hl hm hn).mono fun _ _ ⟨A', c', h1, h2, h3⟩ => ⟨A', c', h1, h2, h3⟩

set_option maxRecDepth 100000 in
set_option maxHeartbeats 16000000 in
theorem sweepKeeps_any (l : List Cn) (m : List Im) (pods : List ByteArray) (well : List Bool) (A B C D : Option Addr) (c d f0 g0 : Nat) (w : World) (hr : Rds w encC A l) (hi : Rds w encI B m) (hs : Rds w encS C pods) (hw : Rds w encBo D well) (hl : l.length ≤ 9223372036854775807) (hlm : m.length ≤ 9223372036854775807) (hm : pods.length ≤ 9223372036854775807) (hq : well.length ≤ 9223372036854775807) (hwf : ∀ x ∈ m, I64 x.size) :
    Calls Try.prog 10 #[.slice A l.length c, .slice B m.length d, .slice C pods.length f0, .slice D well.length g0] w fun e w' => e = .returned (.bool true) ∧ Below w.heap.size w w' := by
  have HR := Lib.hid hr
  have HI := Lib.hid hi
  have HS := Lib.hid hs
  have HV := Lib.hid hw
  have HX := Lib.hid hwf
  clear hr hi hs hw hwf
  go_enter Try.func10, Try.ntmps10
  go_wp2_with fail
  refine (awake22_any _).mono ?_; rintro e w0 ⟨rfl, hb0⟩
  have HP0 := Lib.hid (hb0)
  clear hb0
  go_wp2_with fail
  refine (fit_b l A c _ (HR.out.below HP0.out) hl).mono ?_; rintro e w1 ⟨rfl, hb1⟩
  have HP1 := Lib.hid (HP0.out.trans (hb1.mono HP0.out.size))
  clear HP0 hb1
  cases hcond : fitB l
  case false =>
    clear hcond
    go_wp2_with fail
    refine (awake22_any _).mono ?_; rintro e w2 ⟨rfl, hb2⟩
    have HP2 := Lib.hid (HP1.out.trans (hb2.mono HP1.out.size))
    clear HP1 hb2
    go_wp2_with fail
    go_ret
    exact ⟨rfl, HP2.out⟩
  case true =>
    have HF := Lib.hid hcond
    clear hcond
    go_wp2_with fail
    refine (fewI_b m B d _ (HI.out.below HP1.out) hlm).mono ?_; rintro e w2 ⟨rfl, hb2⟩
    have HP2 := Lib.hid (HP1.out.trans (hb2.mono HP1.out.size))
    clear HP1 hb2
    cases hcond : fewIB m
    case false =>
      clear hcond
      go_wp2_with fail
      refine (awake22_any _).mono ?_; rintro e w3 ⟨rfl, hb3⟩
      have HP3 := Lib.hid (HP2.out.trans (hb3.mono HP2.out.size))
      clear HP2 hb3
      go_wp2_with fail
      go_ret
      exact ⟨rfl, HP3.out⟩
    case true =>
      have HE := Lib.hid hcond
      clear hcond
      go_wp2_with fail
      refine (rightI_b m B d _ (HI.out.below HP2.out) hlm).mono ?_; rintro e w3 ⟨rfl, hb3⟩
      have HP3 := Lib.hid (HP2.out.trans (hb3.mono HP2.out.size))
      clear HP2 hb3
      cases hcond : rightIB m
      case false =>
        clear hcond
        go_wp2_with fail
        refine (awake22_any _).mono ?_; rintro e w4 ⟨rfl, hb4⟩
        have HP4 := Lib.hid (HP3.out.trans (hb4.mono HP3.out.size))
        clear HP3 hb4
        go_wp2_with fail
        go_ret
        exact ⟨rfl, HP4.out⟩
      case true =>
        have HG := Lib.hid hcond
        clear hcond
        go_wp2_with fail
        refine (names_b pods C f0 _ (HS.out.below HP3.out) hm).mono ?_; rintro e w4 ⟨rfl, hb4⟩
        have HP4 := Lib.hid (HP3.out.trans (hb4.mono HP3.out.size))
        clear HP3 hb4
        cases hcond : namesB pods
        case false =>
          clear hcond
          go_wp2_with fail
          refine (awake22_any _).mono ?_; rintro e w5 ⟨rfl, hb5⟩
          have HP5 := Lib.hid (HP4.out.trans (hb5.mono HP4.out.size))
          clear HP4 hb5
          go_wp2_with fail
          go_ret
          exact ⟨rfl, HP5.out⟩
        case true =>
          have HN := Lib.hid hcond
          clear hcond
          by_cases hcond : (200 : Int) < (well.length : Int)
          · have dq : decide ((200 : Int) < (well.length : Int)) = true := decide_eq_true hcond
            have dqn : decide (200 < well.length) = true := decide_eq_true (by omega)
            have dqm : (200 : Int) < (well.length : Int) := hcond
            clear hcond
            go_wp2_with fail
            refine (awake22_any _).mono ?_; rintro e w5 ⟨rfl, hb5⟩
            have HP5 := Lib.hid (HP4.out.trans (hb5.mono HP4.out.size))
            clear HP4 hb5
            go_wp2_with fail
            go_ret
            exact ⟨rfl, HP5.out⟩
          · have dq : decide ((200 : Int) < (well.length : Int)) = false := decide_eq_false hcond
            have dqn : decide (200 < well.length) = false := decide_eq_false (by omega)
            have dqm : (well.length : Int) ≤ 200 := by omega
            clear hcond
            have hl1 : l.length ≤ 60 := fitB_len HF.out
            have hm1 : m.length ≤ 60 := fewIB_len HE.out
            have hp1 : pods.length ≤ 60 := namesB_len HN.out
            have hq1 : well.length ≤ 200 := by omega
            have hndc := Lib.hid (fit_nodup HF.out)
            have hndi := Lib.hid (rightIB_nodup HG.out)
            clear HF HE HG HN
            go_wp2_with (first
              | (at_builtin; refine wl_copy elemC encC rfl (.tmp 53) (.tmp 54) rfl rfl A l c rfl (HR.out.below HP4.out) (by omega) (by omega) ?_; intro A1 k1 w5 ho hb; have HZ1 := Lib.hid (And.intro ho (And.intro ((HP4.out).trans (hb.mono (HP4.out).size)) hb)); clear ho hb)
              | (at_builtin; refine wl_copy elemI encI rfl (.tmp 56) (.tmp 57) rfl rfl B m d rfl (HI.out.below HZ1.out.2.1) (by omega) (by omega) ?_; intro A2 k2 w6 ho hb; have HZ2 := Lib.hid (And.intro ho (And.intro ((HZ1.out.2.1).trans (hb.mono (HZ1.out.2.1).size)) hb)); clear ho hb)
              | (at_builtin; refine wl_copy elemS encS rfl (.tmp 59) (.tmp 60) rfl rfl C pods f0 rfl (HS.out.below HZ2.out.2.1) (by omega) (by omega) ?_; intro A3 k3 w7 ho hb; have HZ3 := Lib.hid (And.intro ho (And.intro ((HZ2.out.2.1).trans (hb.mono (HZ2.out.2.1).size)) hb)); clear ho hb)
              | (at_builtin; refine wl_copy elemBo encBo rfl (.tmp 62) (.tmp 63) rfl rfl D well g0 rfl (HV.out.below HZ3.out.2.1) (by omega) (by omega) ?_; intro A4 k4 w8 ho hb; have HZ4 := Lib.hid (And.intro ho (And.intro ((HZ3.out.2.1).trans (hb.mono (HZ3.out.2.1).size)) hb)); clear ho hb))
            have HP5 := Lib.hid (And.intro (((HZ1.out.1.below HZ2.out.2.2 (Nat.le_refl _)).below HZ3.out.2.2 (Nat.le_refl _)).below HZ4.out.2.2 (Nat.le_refl _)) (And.intro ((HZ2.out.1.below HZ3.out.2.2 (Nat.le_refl _)).below HZ4.out.2.2 (Nat.le_refl _)) (And.intro (HZ3.out.1.below HZ4.out.2.2 (Nat.le_refl _)) (And.intro (HZ4.out.1) (HZ4.out.2.1)))))
            have HSZ := Lib.hid (And.intro HP4.out.size (And.intro HZ1.out.2.1.size (And.intro HZ2.out.2.1.size HZ3.out.2.1.size)))
            have HCB := Lib.hid (fun (k : Nat) (hk : (Value.slice A3 pods.length k3).ownBlock = some k) => (HP5.out.2.2.1.block_lt k hk).2)
            clear HP4 HZ1 HZ2 HZ3 HZ4
            refine (deadE_any l pods A1 A3 k1 k3 _ HP5.out.1.toRds HP5.out.2.2.1.toRds (by omega) hm hndc.out).mono ?_; rintro e w9 ⟨xd, A5, k5, rfl, HXD, hO1, hb9⟩
            have HP6 := Lib.hid (And.intro (hb9.size) (And.intro (hO1) (And.intro (HP5.out.1.below hb9 (Nat.le_refl _)) (And.intro (HP5.out.2.1.below hb9 (Nat.le_refl _)) (And.intro (HP5.out.2.2.1.below hb9 (Nat.le_refl _)) (And.intro (HP5.out.2.2.2.1.below hb9 (Nat.le_refl _)) (HP5.out.2.2.2.2.trans (hb9.mono HP5.out.2.2.2.2.size))))))))
            clear HP5 hb9 hO1
            go_wp2_with fail
            refine (collectE_any m pods 9 well A2 A3 A4 k2 k3 k4 _ HP6.out.2.2.2.1.toRds HP6.out.2.2.2.2.1.toRds HP6.out.2.2.2.2.2.1.toRds (by omega) hm hq HX.out nine).mono ?_; rintro e w10 ⟨K, G, F, A6, k6, rfl, hcg, hO2, hb10⟩
            have HP7 := Lib.hid (And.intro (hO2) (And.intro HP6.out.1 (And.intro (HP6.out.2.1.below hb10 (Nat.le_refl _)) (And.intro (HP6.out.2.2.1.below hb10 (Nat.le_refl _)) (And.intro (HP6.out.2.2.2.1.below hb10 (Nat.le_refl _)) (And.intro (HP6.out.2.2.2.2.1.below hb10 (Nat.le_refl _)) (And.intro (HP6.out.2.2.2.2.2.1.below hb10 (Nat.le_refl _)) (HP6.out.2.2.2.2.2.2.trans (hb10.mono HP6.out.2.2.2.2.2.2.size)))))))))
            clear HP6 hb10 hO2
            have HC := Lib.hid hcg
            clear hcg
            go_wp2_with fail
            refine (lostE_any l pods A1 A3 k1 k3 _ HP7.out.2.2.2.1.toRds HP7.out.2.2.2.2.2.1.toRds (by omega) hm).mono ?_; rintro e w11 ⟨q1, q2, q3, rfl, q4, q5, hb11⟩
            have HP8 := Lib.hid (And.intro (HP7.out.1.below hb11 (Nat.le_refl _)) (And.intro HP7.out.2.1 (And.intro (HP7.out.2.2.1.below hb11 (Nat.le_refl _)) (And.intro (HP7.out.2.2.2.1.below hb11 (Nat.le_refl _)) (And.intro (HP7.out.2.2.2.2.1.below hb11 (Nat.le_refl _)) (And.intro (HP7.out.2.2.2.2.2.1.below hb11 (Nat.le_refl _)) (And.intro (HP7.out.2.2.2.2.2.2.1.below hb11 (Nat.le_refl _)) (HP7.out.2.2.2.2.2.2.2.trans (hb11.mono HP7.out.2.2.2.2.2.2.2.size)))))))))
            clear HP7 hb11 q4 q5
            go_wp2_with fail
            refine (extraD_any l pods 1 A1 A3 k1 k3 _ HP8.out.2.2.2.1.toRds HP8.out.2.2.2.2.2.1.toRds (by omega) hm one hndc.out).mono ?_; rintro e w12 ⟨q4, q5, rfl, q6, hb12⟩
            have HP9 := Lib.hid (And.intro (HP8.out.1.below hb12 (Nat.le_refl _)) (And.intro HP8.out.2.1 (And.intro (HP8.out.2.2.1.below hb12 (Nat.le_refl _)) (And.intro (HP8.out.2.2.2.1.below hb12 (Nat.le_refl _)) (And.intro (HP8.out.2.2.2.2.1.below hb12 (Nat.le_refl _)) (And.intro (HP8.out.2.2.2.2.2.1.below hb12 (Nat.le_refl _)) (And.intro (HP8.out.2.2.2.2.2.2.1.below hb12 (Nat.le_refl _)) (HP8.out.2.2.2.2.2.2.2.trans (hb12.mono HP8.out.2.2.2.2.2.2.2.size)))))))))
            clear HP8 hb12 q6
            have hkept : Kept w w4.heap.size w5.heap.size w6.heap.size w7.heap.size w8.heap.size w9.heap.size (.slice A1 l.length k1) (.slice A2 m.length k2) (.slice A3 pods.length k3) (.slice A4 well.length k4) (.slice A5 xd.length k5) (.slice A6 G.length k6) l m pods well xd G w12 := ⟨HP9.out.2.2.2.1, HP9.out.2.2.2.2.1, HP9.out.2.2.2.2.2.1, HP9.out.2.2.2.2.2.2.1, HP9.out.2.2.1, HP9.out.1, HP9.out.2.2.2.2.2.2.2⟩
            have HLE := Lib.hid HP9.out.2.1
            have HK := Lib.hid hkept
            clear hkept HP9
            have hxl : xd.length ≤ 60 := by have h1 := deadOf_len l pods; rw [← HXD.out] at h1; omega
            have hGl : G.length ≤ 60 := by have h1 := HC.out.len; have h2 := orderOf_len m pods; omega
            go_wp2_with fail
            go_loopw [17] (fun i wr => ∃ k : Nat, k ≤ l.length ∧ i = .int .i64 k ∧ Kept w w4.heap.size w5.heap.size w6.heap.size w7.heap.size w8.heap.size w9.heap.size (.slice A1 l.length k1) (.slice A2 m.length k2) (.slice A3 pods.length k3) (.slice A4 well.length k4) (.slice A5 xd.length k5) (.slice A6 G.length k6) (over zC l k) m pods well xd G wr) (fun i _ => l.length - (intOf i).toNat)
            case atStart => exact ⟨0, by omega, rfl, HK.out⟩
            case round =>
              clear HK
              obtain ⟨k, hk, rfl, hK⟩ := hrel
              have HK := Lib.hid hK
              clear hK
              by_cases hlt : k < l.length
              · have HLN := Lib.hid (over_len zC l k hk)
                have hok : k < (over zC l k).length := by rw [HLN.out]; exact hlt
                have hne : over zC l k ≠ [] := by intro e; rw [e] at hok; simp at hok
                have ha0 : Own wr w4.heap.size 35 encC (.slice A1 (over zC l k).length k1) (over zC l k) := by rw [HLN.out]; exact HK.out.a
                obtain ⟨g, hA1, hge⟩ := own_some ha0 hne
                subst hA1
                have z0 := own_cells ha0 hok 0 (.string l[k].id) (by rw [over_at zC l k hlt hok]; rfl)
                have z1 := own_cells ha0 hok 1 (.int .i64 l[k].state) (by rw [over_at zC l k hlt hok]; rfl)
                have z2 := own_cells ha0 hok 2 (.int .i64 l[k].tries) (by rw [over_at zC l k hlt hok]; rfl)
                have z3 := own_cells ha0 hok 3 (.int .i64 l[k].last) (by rw [over_at zC l k hlt hok]; rfl)
                rw [Nat.add_zero] at z0
                have HA := Lib.hid ha0
                obtain ⟨b0, off, hA, hb0, e0, e1, e2, e3⟩ := (HR.out.below HK.out.B).cn hlt
                subst hA
                have dk : decide ((k : Int) < (l.length : Int)) = true := decide_eq_true (by omega)
                have dk2 : (k : Int) < (l.length : Int) := by omega
                generalize l[k] = x at *
                have de : (x.id.toList == x.id.toList) = true := by simp
                clear ha0
                go_wp2_with fail
                go_quiet (fail)
                go_wp2_with (refine wl_store_own rfl 35 (.tmp 100) (.tmp 99) rfl g k1 zC zC.cells rfl rfl (HA.out.drewN _) hok rfl szC ?_; intro w' ho hg _; rw [HLN.out] at ho; have HN := Lib.hid ((HK.out.below (below_ofDrewN ⟨_, rfl⟩)).setA HLN.out hne HSZ.out.1 ho hg); clear ho hg)
                go_roundw
                case rel => exact ⟨k + 1, by omega, by go_num, by have h1 := HN.out; rw [over_set zC l k hlt] at h1; exact h1⟩
                case measure => simp [intOf]; omega
              · obtain rfl : k = l.length := by omega
                have dk : decide ((l.length : Int) < (l.length : Int)) = false := by simp
                obtain ⟨la, HLA⟩ : ∃ la, Hid (la = over zC l l.length) := ⟨_, Lib.hid rfl⟩
                rw [← HLA.out] at HK
                go_wp2_with fail
                go_loopw [18] (fun i wr => ∃ k : Nat, k ≤ well.length ∧ i = .int .i64 k ∧ Kept w w4.heap.size w5.heap.size w6.heap.size w7.heap.size w8.heap.size w9.heap.size (.slice A1 l.length k1) (.slice A2 m.length k2) (.slice A3 pods.length k3) (.slice A4 well.length k4) (.slice A5 xd.length k5) (.slice A6 G.length k6) la m pods well xd G wr) (fun i _ => well.length - (intOf i).toNat)
                case atStart => exact ⟨0, by omega, rfl, HK.out⟩
                case round =>
                  clear HK
                  obtain ⟨k, hk, rfl, hK⟩ := hrel
                  have HK := Lib.hid hK
                  clear hK
                  by_cases hlt : k < well.length
                  · have hne : well ≠ [] := by intro e; rw [e] at hlt; simp at hlt
                    obtain ⟨g, hA4, hge⟩ := own_some HK.out.d hne
                    subst hA4
                    have z0 := own_cells HK.out.d hlt 0 (.bool well[k]) rfl
                    rw [Nat.add_zero, Nat.mul_one] at z0
                    obtain ⟨b0, off, hA, hb0, e0⟩ := (HV.out.below HK.out.B).bo hlt
                    subst hA
                    have dk3 : decide ((k : Int) < (well.length : Int)) = true := decide_eq_true (by omega)
                    have dk2 : (k : Int) < (well.length : Int) := by omega
                    generalize well[k] = y at *
                    have de : (y != y) = false := by simp
                    go_wp2_with fail
                    go_quiet (fail)
                    go_wp2_with fail
                    go_roundw
                    case rel => exact ⟨k + 1, by omega, by go_num, HK.out.below (below_ofDrewN ⟨_, rfl⟩)⟩
                    case measure => simp [intOf]; omega
                  · obtain rfl : k = well.length := by omega
                    have dk3 : decide ((well.length : Int) < (well.length : Int)) = false := by simp
                    go_wp2_with fail
                    refine (sameI_self m A2 B k2 d _ HK.out.b.toRds (HI.out.below HK.out.B) hlm).mono ?_; rintro e v1 ⟨rfl, hb1⟩
                    have HK1 := Lib.hid (HK.out.below hb1)
                    clear HK hb1
                    go_wp2_with fail
                    refine (sameTexts_self pods A3 C k3 f0 _ HK1.out.c.toRds (HS.out.below HK1.out.B) hm).mono ?_; rintro e v2 ⟨rfl, hb2⟩
                    have HK2 := Lib.hid (HK1.out.below hb2)
                    clear HK1 hb2
                    go_wp2_with fail
                    go_loopw [20] (fun i wr => ∃ k : Nat, k ≤ m.length ∧ i = .int .i64 k ∧ Kept w w4.heap.size w5.heap.size w6.heap.size w7.heap.size w8.heap.size w9.heap.size (.slice A1 l.length k1) (.slice A2 m.length k2) (.slice A3 pods.length k3) (.slice A4 well.length k4) (.slice A5 xd.length k5) (.slice A6 G.length k6) la (over zI m k) pods well xd G wr) (fun i _ => m.length - (intOf i).toNat)
                    case atStart => exact ⟨0, by omega, rfl, HK2.out⟩
                    case round =>
                      clear HK2
                      obtain ⟨k, hk, rfl, hK⟩ := hrel
                      have HK := Lib.hid hK
                      clear hK
                      by_cases hlt : k < m.length
                      · have HLN := Lib.hid (over_len zI m k hk)
                        have hok : k < (over zI m k).length := by rw [HLN.out]; exact hlt
                        have hne : over zI m k ≠ [] := by intro e; rw [e] at hok; simp at hok
                        have ha0 : Own wr w5.heap.size 46 encI (.slice A2 (over zI m k).length k2) (over zI m k) := by rw [HLN.out]; exact HK.out.b
                        obtain ⟨g, hA2, hge⟩ := own_some ha0 hne
                        subst hA2
                        have HA := Lib.hid ha0
                        have dk4 : decide ((k : Int) < (m.length : Int)) = true := decide_eq_true (by omega)
                        have dk2 : (k : Int) < (m.length : Int) := by omega
                        clear ha0
                        go_wp2_with (refine wl_store_own rfl 46 (.tmp 133) (.tmp 132) rfl g k2 zI zI.cells rfl rfl HA.out hok rfl szI ?_; intro w' ho hg _; rw [HLN.out] at ho; have HN := Lib.hid (HK.out.setB HLN.out hne HSZ.out.2.1 ho hg); clear ho hg)
                        go_roundw
                        case rel => exact ⟨k + 1, by omega, by go_num, by have h1 := HN.out; rw [over_set zI m k hlt] at h1; exact h1⟩
                        case measure => simp [intOf]; omega
                      · obtain rfl : k = m.length := by omega
                        have dk4 : decide ((m.length : Int) < (m.length : Int)) = false := by simp
                        obtain ⟨lb, HLB⟩ : ∃ lb, Hid (lb = over zI m m.length) := ⟨_, Lib.hid rfl⟩
                        rw [← HLB.out] at HK
                        go_wp2_with fail
                        go_loopw [21] (fun i wr => ∃ k : Nat, k ≤ pods.length ∧ i = .int .i64 k ∧ Kept w w4.heap.size w5.heap.size w6.heap.size w7.heap.size w8.heap.size w9.heap.size (.slice A1 l.length k1) (.slice A2 m.length k2) (.slice A3 pods.length k3) (.slice A4 well.length k4) (.slice A5 xd.length k5) (.slice A6 G.length k6) la lb (over zS pods k) well xd G wr) (fun i _ => pods.length - (intOf i).toNat)
                        case atStart => exact ⟨0, by omega, rfl, HK.out⟩
                        case round =>
                          clear HK
                          obtain ⟨k, hk, rfl, hK⟩ := hrel
                          have HK := Lib.hid hK
                          clear hK
                          by_cases hlt : k < pods.length
                          · have HLN := Lib.hid (over_len zS pods k hk)
                            have hok : k < (over zS pods k).length := by rw [HLN.out]; exact hlt
                            have hne : over zS pods k ≠ [] := by intro e; rw [e] at hok; simp at hok
                            have ha0 : Own wr w6.heap.size 9 encS (.slice A3 (over zS pods k).length k3) (over zS pods k) := by rw [HLN.out]; exact HK.out.c
                            obtain ⟨g, hA3, hge⟩ := own_some ha0 hne
                            subst hA3
                            have z0 := own_cells ha0 hok 0 (.string pods[k]) (by rw [over_at zS pods k hlt hok]; rfl)
                            rw [Nat.add_zero, Nat.mul_one] at z0
                            have z1 := own_frozen ha0 rfl hne k
                            have hgl := HCB.out g rfl
                            have HN := Lib.hid (own_set1 ha0 hok zS (.string zS) rfl)
                            have dk5 : decide ((k : Int) < (pods.length : Int)) = true := decide_eq_true (by omega)
                            have dk2 : (k : Int) < (pods.length : Int) := by omega
                            have HN2 := Lib.hid (HK.out.setC HLN.out hne HSZ.out.2.2.1 hgl (by have := HLE.out; omega) (by have := HN.out.1; rw [HLN.out] at this; exact this) HN.out.2)
                            clear ha0 hgl
                            go_wp2_with fail
                            go_roundw
                            case rel => exact ⟨k + 1, by omega, by go_num, by have h1 := HN2.out; rw [over_set zS pods k hlt] at h1; exact h1⟩
                            case measure => simp [intOf]; omega
                          · obtain rfl : k = pods.length := by omega
                            have dk5 : decide ((pods.length : Int) < (pods.length : Int)) = false := by simp
                            obtain ⟨lc, HLC⟩ : ∃ lc, Hid (lc = over zS pods pods.length) := ⟨_, Lib.hid rfl⟩
                            rw [← HLC.out] at HK
                            have hgI := Lib.hid (HI.out.below HK.out.B)
                            go_wp2_with fail
                            refine (refCollectE_any m pods 9 well B C D d f0 g0 _ (HI.out.below HK.out.B) (HS.out.below HK.out.B) (HV.out.below HK.out.B) (by omega) hm hq HX.out nine hndi.out K G F HC.out).mono ?_; rintro e v3 ⟨A7, k7, rfl, hO7, hb3⟩
                            have HK3 := Lib.hid (And.intro (HK.out.below hb3) hO7.toRds)
                            clear HK hb3 hO7 hgI
                            go_wp2_with fail
                            refine (refDeadX_any l pods xd HXD.out A C c f0 _ (HR.out.below HK3.out.1.B) (HS.out.below HK3.out.1.B) (by omega) hm hndc.out).mono ?_; rintro e v4 ⟨A8, k8, rfl, hO8, hb4⟩
                            have HK4 := Lib.hid (And.intro (HK3.out.1.below hb4) (And.intro (HK3.out.2.below hb4) hO8.toRds))
                            clear HK3 hb4 hO8
                            go_wp2_with fail
                            refine (sameTexts_self xd A5 A8 k5 k8 _ HK4.out.1.x.toRds HK4.out.2.2 (by omega)).mono ?_; rintro e v5 ⟨rfl, hb5⟩
                            have HK5 := Lib.hid (And.intro (HK4.out.1.below hb5) (HK4.out.2.1.below hb5))
                            clear HK4 hb5
                            go_wp2_with fail
                            refine (sameTexts_self G A6 A7 k6 k7 _ HK5.out.1.y.toRds HK5.out.2 (by omega)).mono ?_; rintro e v6 ⟨rfl, hb6⟩
                            have HK6 := Lib.hid (HK5.out.1.below hb6)
                            clear HK5 hb6
                            go_wp2_with fail
                            go_ret
                            exact ⟨rfl, HK6.out.B⟩
end Go.Proofs.Ytfaklhdafpbkmaa
