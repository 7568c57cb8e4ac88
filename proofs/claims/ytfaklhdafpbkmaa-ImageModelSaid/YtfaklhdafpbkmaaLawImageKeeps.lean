/- bilgelaw15.ImageKeeps: of whatever images, name and used names: what is handed in stays; what is answered is new memory. -/
import Derived.Test.YtfaklhdafpbkmaaImgLaw
import Derived.Outline
namespace Go.Proofs.Ytfaklhdafpbkmaa
open Go.RowKit

abbrev qI : Im := ⟨⟨#[63]⟩, 0, 0⟩
/-- the first k written over -/
def overI (l : List Im) (k : Nat) : List Im := List.replicate k qI ++ l.drop k
theorem overI_len (l : List Im) (k : Nat) (hk : k ≤ l.length) : (overI l k).length = l.length := by unfold overI; simp; omega
theorem overI_set (l : List Im) (k : Nat) (hk : k < l.length) : (overI l k).set k qI = overI l (k + 1) := by
  unfold overI
  rw [List.set_append_right _ _ (by simp), List.length_replicate, Nat.sub_self, List.drop_eq_getElem_cons hk, List.set_cons_zero, List.replicate_succ', List.append_assoc]
  rfl
structure KeptI (W : World) (b0 b1 : Nat) (vo va vb vc vd : Value) (lo la lb lc ld : List Im) (w : World) : Prop where
  o : Own w b0 46 encI vo lo
  a : Own w b1 46 encI va la
  b : Own w b1 46 encI vb lb
  c : Own w b1 46 encI vc lc
  d : Own w b1 46 encI vd ld
  B : Below W.heap.size W w
section
variable {W w w' : World} {b0 b1 : Nat} {vo va vb vc vd : Value} {lo la lb lc ld : List Im}
theorem KeptI.below (h : KeptI W b0 b1 vo va vb vc vd lo la lb lc ld w) (hb : Below w.heap.size w w') : KeptI W b0 b1 vo va vb vc vd lo la lb lc ld w' :=
  ⟨h.o.below hb (Nat.le_refl _), h.a.below hb (Nat.le_refl _), h.b.below hb (Nat.le_refl _), h.c.below hb (Nat.le_refl _), h.d.below hb (Nat.le_refl _), h.B.trans (hb.mono h.B.size)⟩
theorem KeptI.setO {g n c : Nat} (h : KeptI W b0 b1 (.slice (some ⟨g, 0, none⟩) n c) va vb vc vd lo la lb lc ld w) (hW : W.heap.size ≤ b0) (h5 : g < b1) {lo' : List Im} (h1 : Own w' b0 46 encI (.slice (some ⟨g, 0, none⟩) n c) lo') (hg : w.grownBy w' (some g)) :
    KeptI W b0 b1 (.slice (some ⟨g, 0, none⟩) n c) va vb vc vd lo' la lb lc ld w' :=
  ⟨h1, h.a.setApart hg h5, h.b.setApart hg h5, h.c.setApart hg h5, h.d.setApart hg h5,
    h.B.grown hg h.B.size (fun k hk => by injection hk with hk; subst hk; have := (h.o.block_lt g rfl).1; omega)⟩
end
theorem refOrderD_any (l : List Im) (us : List ByteArray) (S : List Im) (hS : S = orderOf l us) (A B : Option Addr) (c d : Nat) (w : World) (hr : Rds w encI A l) (hs : Rds w encS B us) (hl : l.length ≤ 100000) (hm : us.length ≤ 9223372036854775807) (hn : (l.map Im.name).Nodup) :
    Calls Try.prog 45 #[.slice A l.length c, .slice B us.length d] w (GivesIms S w) := by
  subst hS
  exact refOrder_any l us A B c d w hr hs hl hm hn
theorem refPut_v {l m : List Im} {s : ByteArray} {size r : Int} (hm : putOf l s size r = m) (A : Option Addr) (c : Nat) (w : World) (hr : Rds w encI A l) (hl : l.length ≤ 100000) (hs : SortedN l) :
    Calls Try.prog 46 #[.slice A l.length c, .string s, .int .i64 size, .int .i64 r] w (GivesIms m w) := by subst hm; exact refPut_any l s size r A c w hr hl hs
theorem refTouch_v {l m : List Im} {us : List ByteArray} {r : Int} (hm : touchM l us r = m) (A B : Option Addr) (c d : Nat) (w : World) (hr : Rds w encI A l) (hu : Rds w encS B us) (hl : l.length ≤ 100000) (hq : us.length ≤ 9223372036854775807) :
    Calls Try.prog 47 #[.slice A l.length c, .slice B us.length d, .int .i64 r] w (GivesIms m w) := by subst hm; exact refTouch_any l us r A B c d w hr hu hl hq
theorem refDrop_v {l m : List Im} {s : ByteArray} (hm : dropOf s l = m) (A : Option Addr) (c : Nat) (w : World) (hr : Rds w encI A l) (hl : l.length ≤ 100000) :
    Calls Try.prog 48 #[.slice A l.length c, .string s] w (GivesIms m w) := by subst hm; exact refDrop_any l s A c w hr hl

set_option maxRecDepth 100000 in
set_option maxHeartbeats 16000000 in
theorem imageKeeps_any (l : List Im) (s : ByteArray) (used : List ByteArray) (A B : Option Addr) (c d : Nat) (w : World) (hr : Rds w encI A l) (hu : Rds w encS B used) (hl : l.length ≤ 9223372036854775807) (hm : used.length ≤ 9223372036854775807) :
    Calls Try.prog 16 #[.slice A l.length c, .string s, .slice B used.length d] w fun e w' => e = .returned (.bool true) ∧ Below w.heap.size w w' := by
  have HR := Lib.hid hr
  have HU := Lib.hid hu
  clear hr hu
  go_enter Try.func16, Try.ntmps16
  go_wp2_with fail
  refine (awake15_any _).mono ?_; rintro e w0 ⟨rfl, hb0⟩
  have HP0 := Lib.hid (hb0)
  clear hb0
  go_wp2_with fail
  refine (few_b l A c _ (HR.out.below HP0.out) hl).mono ?_; rintro e w1 ⟨rfl, hb1⟩
  have HP1 := Lib.hid (HP0.out.trans (hb1.mono HP0.out.size))
  clear HP0 hb1
  cases hcond : fewIB l
  case false =>
    clear hcond
    go_wp2_with fail
    refine (awake15_any _).mono ?_; rintro e w2 ⟨rfl, hb2⟩
    have HP2 := Lib.hid (HP1.out.trans (hb2.mono HP1.out.size))
    clear HP1 hb2
    go_wp2_with fail
    go_ret
    exact ⟨rfl, HP2.out⟩
  case true =>
    have HF := Lib.hid hcond
    clear hcond
    go_wp2_with fail
    refine (right_b l A c _ (HR.out.below HP1.out) hl).mono ?_; rintro e w2 ⟨rfl, hb2⟩
    have HP2 := Lib.hid (HP1.out.trans (hb2.mono HP1.out.size))
    clear HP1 hb2
    cases hcond : rightIB l
    case false =>
      clear hcond
      go_wp2_with fail
      refine (awake15_any _).mono ?_; rintro e w3 ⟨rfl, hb3⟩
      have HP3 := Lib.hid (HP2.out.trans (hb3.mono HP2.out.size))
      clear HP2 hb3
      go_wp2_with fail
      go_ret
      exact ⟨rfl, HP3.out⟩
    case true =>
      have HG := Lib.hid hcond
      clear hcond
      by_cases hcond : (60 : Int) < (s.size : Int)
      · have dq : decide ((60 : Int) < (s.size : Int)) = true := decide_eq_true hcond
        have dqn : decide (60 < s.size) = true := decide_eq_true (by omega)
        have dqm : (60 : Int) < (s.size : Int) := hcond
        clear hcond
        go_wp2_with fail
        refine (awake15_any _).mono ?_; rintro e w3 ⟨rfl, hb3⟩
        have HP3 := Lib.hid (HP2.out.trans (hb3.mono HP2.out.size))
        clear HP2 hb3
        go_wp2_with fail
        go_ret
        exact ⟨rfl, HP3.out⟩
      · have dq : decide ((60 : Int) < (s.size : Int)) = false := decide_eq_false hcond
        have dqn : decide (60 < s.size) = false := decide_eq_false (by omega)
        have dqm : (s.size : Int) ≤ 60 := by omega
        clear hcond
        go_wp2_with fail
        refine (namesT_b used B d _ (HU.out.below HP2.out) hm).mono ?_; rintro e w3 ⟨rfl, hb3⟩
        have HP3 := Lib.hid (HP2.out.trans (hb3.mono HP2.out.size))
        clear HP2 hb3
        cases hcond : namesB used
        case false =>
          clear hcond
          go_wp2_with fail
          refine (awake15_any _).mono ?_; rintro e w4 ⟨rfl, hb4⟩
          have HP4 := Lib.hid (HP3.out.trans (hb4.mono HP3.out.size))
          clear HP3 hb4
          go_wp2_with fail
          go_ret
          exact ⟨rfl, HP4.out⟩
        case true =>
          have HN := Lib.hid hcond
          clear hcond
          have hl1 : l.length ≤ 60 := few_len HF.out
          have hm1 : used.length ≤ 60 := names_len HN.out
          have HSO := Lib.hid (sorted_right HG.out)
          clear HF HG HN
          go_wp2_with (at_builtin; refine wl_copy elemI encI rfl (.tmp 37) (.tmp 38) rfl rfl A l c rfl (HR.out.below HP3.out) (by omega) (by omega) ?_; intro A0 k0 w4 ho hb; have HZ1 := Lib.hid (And.intro ho ((HP3.out).trans (hb.mono (HP3.out).size))); clear ho hb)
          have HSZ := Lib.hid HP3.out.size
          clear HP3
          have HP4 := Lib.hid (And.intro (HZ1.out.1) (And.intro (HZ1.out.2) (Nat.le_refl w4.heap.size)))
          have HCB := Lib.hid (fun (k : Nat) (hk : (Value.slice A0 l.length k0).ownBlock = some k) => (HP4.out.1.block_lt k hk).2)
          clear HZ1
          obtain ⟨pa, HPA⟩ : ∃ p, Hid (putOf l s 1 1 = p) := ⟨_, Lib.hid rfl⟩
          obtain ⟨pb, HPB⟩ : ∃ p, Hid (touchM l used 2 = p) := ⟨_, Lib.hid rfl⟩
          obtain ⟨pc, HPC⟩ : ∃ p, Hid (dropAt l s = p) := ⟨_, Lib.hid rfl⟩
          obtain ⟨pd, HPD⟩ : ∃ p, Hid (orderOf l used = p) := ⟨_, Lib.hid rfl⟩
          have HPC2 := Lib.hid (show dropOf s l = pc from by rw [← dropAt_eq HSO.out]; exact HPC.out)
          have hla : pa.length ≤ 61 := by
            rw [← HPA.out]
            cases hat : isAt l s
            · rw [putOf_no hat, insI_len _ _ _ (lowerI_le l s)]; omega
            · rw [put_len hat]; omega
          have hlb : pb.length ≤ 60 := by rw [← HPB.out, touchM_len]; exact hl1
          have hlc : pc.length ≤ 60 := by rw [← HPC.out, dropAt_eq HSO.out]; unfold dropOf; exact Nat.le_trans (List.length_filter_le _ _) hl1
          have hld : pd.length ≤ 60 := by
            have h : (orderOf l used).length = (l.filter (isFree used)).length := sortIm_len _
            rw [← HPD.out, h]; exact Nat.le_trans (List.length_filter_le _ _) hl1
          obtain ⟨at_, HAT⟩ : ∃ b, Hid (isAt l s = b) := ⟨_, Lib.hid rfl⟩
          refine (put_v HPA.out A0 k0 _ HP4.out.1.toRds (by omega) HSO.out).mono ?_; rintro e w5 ⟨A1, k1, rfl, hO, hb5⟩
          have HP5 := Lib.hid (And.intro (Nat.le_trans HP4.out.2.2 hb5.size) (And.intro (hO.mono HP4.out.2.2) (And.intro (HP4.out.1.below hb5 (Nat.le_refl _)) (HP4.out.2.1.trans (hb5.mono HP4.out.2.1.size)))))
          clear HP4 hb5 hO
          go_wp2_with fail
          refine (touch_v HPB.out A0 B k0 d _ HP5.out.2.2.1.toRds (HU.out.below HP5.out.2.2.2) (by omega) hm HSO.out).mono ?_; rintro e w6 ⟨A2, k2, rfl, hO, hb6⟩
          have HP6 := Lib.hid (And.intro (Nat.le_trans HP5.out.1 hb6.size) (And.intro (hO.mono HP5.out.1) (And.intro (HP5.out.2.1.below hb6 (Nat.le_refl _)) (And.intro (HP5.out.2.2.1.below hb6 (Nat.le_refl _)) (HP5.out.2.2.2.trans (hb6.mono HP5.out.2.2.2.size))))))
          clear HP5 hb6 hO
          go_wp2_with fail
          refine (drop_v HPC.out HAT.out A0 k0 _ HP6.out.2.2.2.1.toRds (by omega) HSO.out).mono ?_; rintro e w7 ⟨A3, k3, rfl, hO, hb7⟩
          have HP7 := Lib.hid (And.intro (Nat.le_trans HP6.out.1 hb7.size) (And.intro (hO.mono HP6.out.1) (And.intro (HP6.out.2.1.below hb7 (Nat.le_refl _)) (And.intro (HP6.out.2.2.1.below hb7 (Nat.le_refl _)) (And.intro (HP6.out.2.2.2.1.below hb7 (Nat.le_refl _)) (HP6.out.2.2.2.2.trans (hb7.mono HP6.out.2.2.2.2.size)))))))
          clear HP6 hb7 hO
          go_wp2_with fail
          refine (orderV_any HPD.out A0 B k0 d _ HP7.out.2.2.2.2.1.toRds (HU.out.below HP7.out.2.2.2.2.2) (by omega) hm).mono ?_; rintro e w8 ⟨A4, k4, rfl, hO, hb8⟩
          have HP8 := Lib.hid (And.intro (Nat.le_trans HP7.out.1 hb8.size) (And.intro (hO.mono HP7.out.1) (And.intro (HP7.out.2.1.below hb8 (Nat.le_refl _)) (And.intro (HP7.out.2.2.1.below hb8 (Nat.le_refl _)) (And.intro (HP7.out.2.2.2.1.below hb8 (Nat.le_refl _)) (And.intro (HP7.out.2.2.2.2.1.below hb8 (Nat.le_refl _)) (HP7.out.2.2.2.2.2.trans (hb8.mono HP7.out.2.2.2.2.2.size))))))))
          clear HP7 hb8 hO
          go_wp2_with fail
          refine (sameI_self l A0 A k0 c _ HP8.out.2.2.2.2.2.1.toRds (HR.out.below HP8.out.2.2.2.2.2.2) (by omega)).mono ?_; rintro e w9 ⟨rfl, hb9⟩
          have HP9 := Lib.hid (And.intro HP8.out.1 (And.intro (HP8.out.2.1.below hb9 (Nat.le_refl _)) (And.intro (HP8.out.2.2.1.below hb9 (Nat.le_refl _)) (And.intro (HP8.out.2.2.2.1.below hb9 (Nat.le_refl _)) (And.intro (HP8.out.2.2.2.2.1.below hb9 (Nat.le_refl _)) (And.intro (HP8.out.2.2.2.2.2.1.below hb9 (Nat.le_refl _)) (HP8.out.2.2.2.2.2.2.trans (hb9.mono HP8.out.2.2.2.2.2.2.size))))))))
          clear HP8 hb9
          have hkept : KeptI w w3.heap.size w4.heap.size (.slice A0 l.length k0) (.slice A1 pa.length k1) (.slice A2 pb.length k2) (.slice A3 pc.length k3) (.slice A4 pd.length k4) l pa pb pc pd w9 := ⟨HP9.out.2.2.2.2.2.1, HP9.out.2.2.2.2.1, HP9.out.2.2.2.1, HP9.out.2.2.1, HP9.out.2.1, HP9.out.2.2.2.2.2.2⟩
          have HK := Lib.hid hkept
          clear hkept HP9
          go_wp2_with fail
          go_loopw [13] (fun i wr => ∃ k : Nat, k ≤ l.length ∧ i = .int .i64 k ∧ KeptI w w3.heap.size w4.heap.size (.slice A0 l.length k0) (.slice A1 pa.length k1) (.slice A2 pb.length k2) (.slice A3 pc.length k3) (.slice A4 pd.length k4) (overI l k) pa pb pc pd wr) (fun i _ => l.length - (intOf i).toNat)
          case atStart => exact ⟨0, by omega, rfl, HK.out⟩
          case round =>
            clear HK
            obtain ⟨k, hk, rfl, hK⟩ := hrel
            have HK := Lib.hid hK
            clear hK
            by_cases hlt : k < l.length
            · have HLN := Lib.hid (overI_len l k hk)
              have hok : k < (overI l k).length := by rw [HLN.out]; exact hlt
              have hne : overI l k ≠ [] := by intro e; rw [e] at hok; simp at hok
              have ha0 : Own wr w3.heap.size 46 encI (.slice A0 (overI l k).length k0) (overI l k) := by rw [HLN.out]; exact HK.out.o
              obtain ⟨g, hA0, hge⟩ := own_some ha0 hne
              subst hA0
              have HA := Lib.hid ha0
              have HGL := Lib.hid (HCB.out g rfl)
              have dk : decide ((k : Int) < (l.length : Int)) = true := decide_eq_true (by omega)
              have dk2 : (k : Int) < (l.length : Int) := by omega
              clear ha0
              go_wp2_with (refine wl_store_own rfl 46 (.tmp 68) (.tmp 67) rfl g k0 qI qI.cells rfl rfl HA.out hok rfl szIm ?_; intro w' ho hg _; rw [HLN.out] at ho; have HN := Lib.hid (HK.out.setO HSZ.out HGL.out ho hg); clear ho hg)
              go_roundw
              case rel => exact ⟨k + 1, by omega, by go_num, by have h1 := HN.out; rw [overI_set l k hlt] at h1; exact h1⟩
              case measure => simp [intOf]; omega
            · obtain rfl : k = l.length := by omega
              have dk : decide ((l.length : Int) < (l.length : Int)) = false := by simp
              obtain ⟨lo, HLO⟩ : ∃ lo, Hid (lo = overI l l.length) := ⟨_, Lib.hid rfl⟩
              rw [← HLO.out] at HK
              go_wp2_with fail
              refine (refPut_v HPA.out A c _ (HR.out.below HK.out.B) (by omega) HSO.out).mono ?_; rintro e v1 ⟨A5, k5, rfl, hO, hb⟩
              have HK1 := Lib.hid (And.intro (HK.out.below hb) hO.toRds)
              clear HK hb hO
              go_wp2_with fail
              refine (sameI_self pa A1 A5 k1 k5 _ HK1.out.1.a.toRds HK1.out.2 (by omega)).mono ?_; rintro e v2 ⟨rfl, hb⟩
              have HK2 := Lib.hid (HK1.out.1.below hb)
              clear HK1 hb
              go_wp2_with fail
              refine (refTouch_v HPB.out A B c d _ (HR.out.below HK2.out.B) (HU.out.below HK2.out.B) (by omega) hm).mono ?_; rintro e v3 ⟨A6, k6, rfl, hO, hb⟩
              have HK3 := Lib.hid (And.intro (HK2.out.below hb) hO.toRds)
              clear HK2 hb hO
              go_wp2_with fail
              refine (sameI_self pb A2 A6 k2 k6 _ HK3.out.1.b.toRds HK3.out.2 (by omega)).mono ?_; rintro e v4 ⟨rfl, hb⟩
              have HK4 := Lib.hid (HK3.out.1.below hb)
              clear HK3 hb
              go_wp2_with fail
              refine (refDrop_v HPC2.out A c _ (HR.out.below HK4.out.B) (by omega)).mono ?_; rintro e v5 ⟨A7, k7, rfl, hO, hb⟩
              have HK5 := Lib.hid (And.intro (HK4.out.below hb) hO.toRds)
              clear HK4 hb hO
              go_wp2_with fail
              refine (sameI_self pc A3 A7 k3 k7 _ HK5.out.1.c.toRds HK5.out.2 (by omega)).mono ?_; rintro e v6 ⟨rfl, hb⟩
              have HK6 := Lib.hid (HK5.out.1.below hb)
              clear HK5 hb
              go_wp2_with fail
              refine (refOrderD_any l used pd HPD.out.symm A B c d _ (HR.out.below HK6.out.B) (HU.out.below HK6.out.B) (by omega) hm (sorted_nodup HSO.out)).mono ?_; rintro e v7 ⟨A8, k8, rfl, hO, hb⟩
              have HK7 := Lib.hid (And.intro (HK6.out.below hb) hO.toRds)
              clear HK6 hb hO
              go_wp2_with fail
              refine (sameI_self pd A4 A8 k4 k8 _ HK7.out.1.d.toRds HK7.out.2 (by omega)).mono ?_; rintro e v8 ⟨rfl, hb⟩
              have HK8 := Lib.hid (HK7.out.1.below hb)
              clear HK7 hb
              go_wp2_with fail
              go_ret
              exact ⟨rfl, HK8.out.B⟩
end Go.Proofs.Ytfaklhdafpbkmaa
