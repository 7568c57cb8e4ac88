/- bilgelaw15.ImageTouch: of whatever images, used names and small number: what is touched in a later round than all goes behind all that wasn't. -/
import Derived.Test.YtfaklhdafpbkmaaImgLaw
import Derived.Outline
namespace Go.Proofs.Ytfaklhdafpbkmaa
open Go.RowKit

theorem touch_is {l : List Im} {us : List ByteArray} {R : Int} (hl : ∀ y ∈ l, y.last < R) {x : Im} (hx : x ∈ touchM l us R) : x.last ≤ R ∧ hasB us x.name = (x.last == R) := by
  unfold touchM at hx
  obtain ⟨y, hy, rfl⟩ := List.mem_map.1 hx
  have h := hl y hy
  cases hh : hasB us y.name
  · simp only [Bool.false_eq_true, if_false]
    refine ⟨by omega, ?_⟩
    rw [hh]
    exact (beq_eq_false_iff_ne.2 (by omega)).symm
  · simp only [if_true]
    refine ⟨Int.le_refl _, ?_⟩
    show hasB us y.name = _
    rw [hh]
    simp [late]
theorem order_all (T : List Im) : (orderOf T []).length = T.length ∧ (∀ x ∈ orderOf T [], x ∈ T) := by
  have hf : T.filter (isFree []) = T := List.filter_eq_self.2 fun x _ => rfl
  have hp : (orderOf T []).Perm T := by
    have h := List.mergeSort_perm (T.filter (isFree [])) imLe
    rw [hf] at h
    unfold orderOf sortIm
    rw [hf]; exact h
  exact ⟨hp.length_eq, fun x hx => hp.mem_iff.1 hx⟩
theorem order_last (T : List Im) (us : List ByteArray) {i k : Nat} (hk : k < (orderOf T us).length) (hik : i < k) : ((orderOf T us)[i]'(by omega)).last ≤ (orderOf T us)[k].last := by
  have hp : (orderOf T us).Pairwise fun x y => imLe x y = true := List.pairwise_mergeSort imLe_trans imLe_total _
  have hs := List.pairwise_iff_getElem.1 hp i k (by omega) hk hik
  generalize (orderOf T us)[i]'(by omega) = x at *
  generalize (orderOf T us)[k] = y at *
  unfold imLe at hs
  have : ¬ (imlt y x = true) := by simpa using hs
  rw [imlt_iff] at this
  omega
theorem total_touch (l : List Im) (us : List ByteArray) (R : Int) : totalOf (touchM l us R) = totalOf l := by
  have key : ∀ (q : List Im) (a : Int), (q.map fun x => if hasB us x.name then late x R else x).foldl (fun n x => satAdd n x.size) a = q.foldl (fun n x => satAdd n x.size) a := by
    intro q
    induction q with
    | nil => intro a; rfl
    | cons x q ih =>
      intro a
      rw [List.map_cons, List.foldl_cons, List.foldl_cons, ih]
      congr 2
      split <;> rfl
  exact key l 0
theorem touch_I64 {l : List Im} (us : List ByteArray) (R : Int) (h : ∀ x ∈ l, I64 x.size) : ∀ x ∈ touchM l us R, I64 x.size := by
  intro x hx
  unfold touchM at hx
  obtain ⟨y, hy, rfl⟩ := List.mem_map.1 hx
  split <;> exact h y hy
/-- the one ahead of place q was touched -/
def Behind (o : List Im) (R : Int) (q : Nat) (b : Bool) : Prop := b = true → ∃ h : q - 1 < o.length, 0 < q ∧ o[q - 1].last = R
theorem hasT_v (l : List ByteArray) (s : ByteArray) (b : Bool) (hb : hasB l s = b) (A : Option Addr) (c : Nat) (w : World) (hr : Rds w encS A l) (hm : l.length ≤ 9223372036854775807) :
    Calls Try.prog 27 #[.slice A l.length c, .string s] w fun e w' => e = .returned (.bool b) ∧ w = w' :=
  (has_any l s A c w hr hm).mono fun _ _ h => ⟨by rw [h.1, hb], h.2⟩

theorem touchD_any (l : List Im) (us : List ByteArray) (r : Int) (A B : Option Addr) (c d : Nat) (w : World) (hr : Rds w encI A l) (hu : Rds w encS B us) (hl : l.length ≤ 100000) (hq : us.length ≤ 9223372036854775807) (hs : SortedN l) :
    Calls Try.prog 39 #[.slice A l.length c, .slice B us.length d, .int .i64 r] w fun e w' => ∃ (T : List Im) (A' : Option Addr) (c' : Nat), e = .returned (.slice A' T.length c') ∧ Hid (T = touchM l us r) ∧ Own w' w.heap.size 46 encI (.slice A' T.length c') T ∧ Below w.heap.size w w' :=
  (touch_any l us r A B c d w hr hu hl hq hs).mono fun _ _ ⟨A', c', h1, h2, h3⟩ => ⟨_, A', c', h1, Lib.hid rfl, h2, h3⟩

set_option maxRecDepth 100000 in
set_option maxHeartbeats 16000000 in
theorem imageTouch_any (l : List Im) (used : List ByteArray) (more : UInt8) (A B : Option Addr) (c d : Nat) (w : World) (hr : Rds w encI A l) (hu : Rds w encS B used) (hl : l.length ≤ 9223372036854775807) (hm : used.length ≤ 9223372036854775807) (hwf : ∀ x ∈ l, I64 x.size) :
    Calls Try.prog 14 #[.slice A l.length c, .slice B used.length d, .int .u8 more.toNat] w fun e w' => e = .returned (.bool true) ∧ Below w.heap.size w w' := by
  have HX := Lib.hid hwf
  clear hwf
  obtain ⟨K, hK⟩ : ∃ K : Nat, K = more.toNat := ⟨_, rfl⟩
  have hK2 : K ≤ 255 := by have := more.toNat_lt; omega
  rw [← hK]
  clear hK more
  have HR := Lib.hid hr
  have HU := Lib.hid hu
  clear hr hu
  go_enter Try.func14, Try.ntmps14
  go_wp2_with fail
  refine (awake15_any _).mono ?_; rintro e w0 ⟨rfl, hb0⟩
  have HP0 := Lib.hid (hb0)
  clear hb0
  go_wp2_with fail
  refine (few_b l A c _ (HR.out.below HP0.out) hl).mono ?_; rintro e w1 ⟨rfl, hb1⟩
  have HP1 := Lib.hid (HP0.out.trans (hb1.mono HP0.out.size))
  clear HP0 hb1
  cases hcond : fewIB l
  case false =>
    clear hcond
    go_wp2_with fail
    refine (awake15_any _).mono ?_; rintro e w2 ⟨rfl, hb2⟩
    have HP2 := Lib.hid (HP1.out.trans (hb2.mono HP1.out.size))
    clear HP1 hb2
    go_wp2_with fail
    go_ret
    exact ⟨rfl, HP2.out⟩
  case true =>
    have HF := Lib.hid hcond
    clear hcond
    go_wp2_with fail
    refine (namesT_b used B d _ (HU.out.below HP1.out) hm).mono ?_; rintro e w2 ⟨rfl, hb2⟩
    have HP2 := Lib.hid (HP1.out.trans (hb2.mono HP1.out.size))
    clear HP1 hb2
    cases hcond : namesB used
    case false =>
      clear hcond
      go_wp2_with fail
      refine (awake15_any _).mono ?_; rintro e w3 ⟨rfl, hb3⟩
      have HP3 := Lib.hid (HP2.out.trans (hb3.mono HP2.out.size))
      clear HP2 hb3
      go_wp2_with fail
      go_ret
      exact ⟨rfl, HP3.out⟩
    case true =>
      have HN := Lib.hid hcond
      clear hcond
      go_wp2_with fail
      refine (right_b l A c _ (HR.out.below HP2.out) hl).mono ?_; rintro e w3 ⟨rfl, hb3⟩
      have HP3 := Lib.hid (HP2.out.trans (hb3.mono HP2.out.size))
      clear HP2 hb3
      cases hcond : rightIB l
      case false =>
        clear hcond
        go_wp2_with fail
        refine (awake15_any _).mono ?_; rintro e w4 ⟨rfl, hb4⟩
        have HP4 := Lib.hid (HP3.out.trans (hb4.mono HP3.out.size))
        clear HP3 hb4
        go_wp2_with fail
        go_ret
        exact ⟨rfl, HP4.out⟩
      case true =>
        have HG := Lib.hid hcond
        clear hcond
        have hl1 : l.length ≤ 60 := few_len HF.out
        have hm1 : used.length ≤ 60 := names_len HN.out
        have HSO := Lib.hid (sorted_right HG.out)
        have HPOS := Lib.hid (fun (x : Im) (hx : x ∈ l) => (right_pos HG.out hx).2)
        clear HF HN HG
        go_wp2_with fail
        go_loop [7, 8] (fun m i => ∃ (k : Nat) (M : Int), k ≤ l.length ∧ i = .int .i64 k ∧ m = .int .i64 M ∧ (l.take k).all (fun x => decide (x.last ≤ M)) = true ∧ 0 ≤ M ∧ M ≤ 1000000000) (fun _ i => l.length - (intOf i).toNat)
        case atStart => exact ⟨0, 0, by omega, rfl, rfl, rfl, by omega, by omega⟩
        case round =>
          obtain ⟨k, M, hk, rfl, rfl, h0, hM0, hM1⟩ := hrel
          have H0 := Lib.hid h0
          clear h0
          by_cases hlt : k < l.length
          · have dk : decide ((k : Int) < (l.length : Int)) = true := decide_eq_true (by omega)
            have dk2 : (k : Int) < (l.length : Int) := by omega
            obtain ⟨b0, off, rfl, hb0, _, _, hcl⟩ := (HR.out.below HP3.out).im hlt
            have HS1 := Lib.hid (fun (h : l[k].last ≤ M) => allsnoc (fun x : Im => decide (x.last ≤ M)) l k hlt H0.out (decide_eq_true h))
            have HS2 := Lib.hid (fun (h : M < l[k].last) => allsnoc (fun x : Im => decide (x.last ≤ l[k].last)) l k hlt (List.all_eq_true.2 fun x hx => decide_eq_true (by have := of_decide_eq_true (List.all_eq_true.1 H0.out x hx); omega)) (decide_eq_true (Int.le_refl _)))
            have hxp := HPOS.out l[k] (List.getElem_mem hlt)
            generalize l[k].last = z at *
            by_cases he : (1000000000 : Int) < z
            · have d1 : decide ((1000000000 : Int) < z) = true := decide_eq_true he
              go_wp2_with fail
              go_ret
              exact ⟨rfl, HP3.out⟩
            · have d1 : decide ((1000000000 : Int) < z) = false := decide_eq_false he
              by_cases hz : M < z
              · have d2 : decide (M < z) = true := decide_eq_true hz
                have HN := Lib.hid (HS2.out hz)
                clear HS1 HS2
                go_wp2_with fail
                go_round
                case rel => exact ⟨k + 1, z, by omega, by go_num, rfl, HN.out, by omega, by omega⟩
                case measure => simp [intOf]; omega
              · have d2 : decide (M < z) = false := decide_eq_false hz
                have HN := Lib.hid (HS1.out (by omega))
                clear HS1 HS2
                go_wp2_with fail
                go_round
                case rel => exact ⟨k + 1, M, by omega, by go_num, rfl, HN.out, hM0, hM1⟩
                case measure => simp [intOf]; omega
          · obtain rfl : k = l.length := by omega
            have dk : decide ((l.length : Int) < (l.length : Int)) = false := by simp
            obtain ⟨R, hR⟩ : ∃ R : Int, R = M + 1 + (K : Int) := ⟨_, rfl⟩
            have HLR := Lib.hid (show ∀ y ∈ l, y.last < R from fun y hy => by
              have h1 := H0.out
              rw [List.take_length] at h1
              have := of_decide_eq_true (List.all_eq_true.1 h1 y hy)
              omega)
            have e1 : IntKind.i64.wrap (M + 1) = M + 1 := by rw [IntKind.wrap_i64]; omega
            have e2 : wrap64 (M + 1) = M + 1 := by unfold wrap64; omega
            have e3 : IntKind.i64.wrap (K : Int) = (K : Int) := by rw [IntKind.wrap_i64]; omega
            have e4 : IntKind.i64.wrap (M + 1 + (K : Int)) = R := by rw [IntKind.wrap_i64]; omega
            have e5 : wrap64 (M + 1 + (K : Int)) = R := by unfold wrap64; omega
            have e6 : M + 1 + (K : Int) = R := hR.symm
            clear H0 hR
            go_wp2_with fail
            clear e1 e2 e3 e4 e5 e6
            refine (touchD_any l used R A B c d _ (HR.out.below HP3.out) (HU.out.below HP3.out) (by omega) hm HSO.out).mono ?_; rintro e w4 ⟨T, A1, c1, rfl, HT, hO, hb4⟩
            have HP4 := Lib.hid (And.intro (hO.mono HP3.out.size) (HP3.out.trans (hb4.mono HP3.out.size)))
            clear HP3 hb4 hO
            have hTl : T.length = l.length := by rw [HT.out]; exact touchM_len _ _ _
            have HTL := Lib.hid hTl
            have hT60 : T.length ≤ 60 := by omega
            clear hTl
            go_wp2_with fail
            refine (orderV_any rfl A1 none c1 0 _ HP4.out.1.toRds (Rds.nil _ _ _) (by omega) (by simp)).mono ?_; rintro e w5 ⟨A2, c2, rfl, hO, hb5⟩
            have HP5 := Lib.hid (And.intro (hO.mono HP4.out.2.size) (And.intro (HP4.out.1.below hb5 (Nat.le_refl _)) (HP4.out.2.trans (hb5.mono HP4.out.2.size))))
            clear HP4 hb5 hO
            have HOA := Lib.hid (order_all T)
            have HOL := Lib.hid (fun (i k : Nat) (hk : k < (orderOf T []).length) (hik : i < k) => order_last T [] hk hik)
            obtain ⟨o, HO⟩ : ∃ o, Hid (orderOf T [] = o) := ⟨_, Lib.hid rfl⟩
            have HP := Lib.hid (And.intro HP5.out.1 (And.intro HP5.out.2.1 HP5.out.2.2))
            clear HP5
            rw [HO.out] at HOA HP ⊢
            have HOL2 := Lib.hid (fun (i k : Nat) (hk : k < o.length) (hik : i < k) => show (o[i]'(by omega)).last ≤ o[k].last from by have h := HO.out; subst h; exact HOL.out i k hk hik)
            have HIS := Lib.hid (fun (x : Im) (hx : x ∈ o) => touch_is HLR.out (by have := HOA.out.2 x hx; rw [HT.out] at this; exact this))
            have hol : o.length ≤ 60 := by have := HOA.out.1; omega
            have HTT := Lib.hid (show totalOf T = totalOf l by rw [HT.out]; exact total_touch l used R)
            have HTI := Lib.hid (show ∀ x ∈ T, I64 x.size by rw [HT.out]; exact touch_I64 used R HX.out)
            clear HOL
            go_wp2_with fail
            go_loop [12, 13] (fun bb i => ∃ (q : Nat) (b : Bool), q ≤ o.length ∧ i = .int .i64 q ∧ bb = .bool b ∧ Behind o R q b) (fun _ i => o.length - (intOf i).toNat)
            case atStart => exact ⟨0, false, by omega, rfl, rfl, fun h => by cases h⟩
            case round =>
              obtain ⟨q, b, hq, rfl, rfl, hbh⟩ := hrel
              have HBH := Lib.hid hbh
              clear hbh
              by_cases hqlt : q < o.length
              · have dq : decide ((q : Int) < (o.length : Int)) = true := decide_eq_true (by omega)
                have dq2 : (q : Int) < (o.length : Int) := by omega
                obtain ⟨b1, o1, rfl, hb1, x0, x1, x2⟩ := HP.out.1.toRds.im hqlt
                obtain ⟨hz1, hz2⟩ := HIS.out o[q] (List.getElem_mem hqlt)
                have HPREV := Lib.hid (show b = true → o[q].last = R from fun h => by
                  obtain ⟨h1, h2, h3⟩ := HBH.out h
                  have h4 := HOL2.out (q - 1) q hqlt (by omega)
                  omega)
                have HNEXT := Lib.hid (show o[q].last = R → Behind o R (q + 1) true from fun h _ => ⟨by simpa using hqlt, by omega, by simpa using h⟩)
                have HNF : Hid (Behind o R (q + 1) false) := fun h => by cases h
                generalize o[q] = x at *
                have HH := Lib.hid hz2
                by_cases hz : x.last = R
                · have hzb : (x.last == R) = true := beq_iff_eq.2 hz
                  have HV := Lib.hid (hz2.trans hzb)
                  have HN := Lib.hid (HNEXT.out hz)
                  clear hz hz2 HH HPREV HNEXT hz1
                  cases b
                  all_goals
                    go_wp2_with fail
                    refine (hasT_v used x.name true HV.out B d _ (HU.out.below HP.out.2.2) hm).mono ?_; rintro e wa ⟨rfl, rfl⟩
                    go_wp2_with fail
                    go_round
                    case rel => exact ⟨q + 1, true, by omega, by go_num, rfl, HN.out⟩
                    case measure => simp [intOf]; omega
                · have hzb : (x.last == R) = false := beq_eq_false_iff_ne.2 hz
                  have HV := Lib.hid (hz2.trans hzb)
                  have hbf : b = false := by
                    cases hb : b
                    · rfl
                    · exact absurd (HPREV.out hb) hz
                  subst hbf
                  clear hz hz2 HH HPREV HNEXT hz1
                  go_wp2_with fail
                  refine (hasT_v used x.name false HV.out B d _ (HU.out.below HP.out.2.2) hm).mono ?_; rintro e wa ⟨rfl, rfl⟩
                  go_wp2_with fail
                  go_round
                  case rel => exact ⟨q + 1, false, by omega, by go_num, rfl, HNF.out⟩
                  case measure => simp [intOf]; omega
              · obtain rfl : q = o.length := by omega
                have dq : decide ((o.length : Int) < (o.length : Int)) = false := by simp
                have dlen : ((o.length : Int) == (l.length : Int)) = true := beq_iff_eq.2 (by have h1 := HOA.out.1; have h2 := HTL.out; omega)
                have dtt : ∀ z : Int, (z == z) = true := fun z => by simp
                clear dtt
                go_wp2_with fail
                refine (total_v HTT.out A1 c1 _ HP.out.2.1.toRds (by omega) HTI.out).mono ?_; rintro e v1 ⟨rfl, hb1⟩
                have HQ1 := Lib.hid (HP.out.2.2.trans (hb1.mono HP.out.2.2.size))
                clear hb1
                go_wp2_with fail
                refine (total_v rfl A c _ (HR.out.below HQ1.out) (by omega) HX.out).mono ?_; rintro e v2 ⟨rfl, hb2⟩
                have HQ2 := Lib.hid (HQ1.out.trans (hb2.mono HQ1.out.size))
                clear hb2
                go_wp2_with fail
                go_ret
                exact ⟨ret_bool (by simp), HQ2.out⟩
end Go.Proofs.Ytfaklhdafpbkmaa
