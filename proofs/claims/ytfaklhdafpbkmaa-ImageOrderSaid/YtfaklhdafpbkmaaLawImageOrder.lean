/- bilgelaw15.ImageOrder: of whatever images and used names: what goes is what isn't used, each once; each goes ahead of the next one. -/
import Derived.Test.YtfaklhdafpbkmaaImgLaw
import Derived.BigQuiet
import Derived.Outline
namespace Go.Proofs.Ytfaklhdafpbkmaa
open Go.RowKit

theorem orderOf_mem_iff {l : List Im} {used : List ByteArray} {x : Im} : x ∈ orderOf l used ↔ x ∈ l ∧ isFree used x = true := by
  have h := (List.mergeSort_perm (l.filter (isFree used)) imLe).mem_iff (a := x)
  show x ∈ (l.filter (isFree used)).mergeSort imLe ↔ _
  rw [h, List.mem_filter]
theorem name_inj {l : List Im} (hs : SortedN l) {x y : Im} (hx : x ∈ l) (hy : y ∈ l) (h : x.name = y.name) : x = y := by
  rw [← findOf_mem hs hx, ← findOf_mem hs hy, h]
theorem orderOf_len_le (l : List Im) (used : List ByteArray) : (orderOf l used).length ≤ l.length := by
  have h : (orderOf l used).length = (l.filter (isFree used)).length := sortIm_len _
  rw [h]; exact List.length_filter_le _ _
theorem any_order {l : List Im} (hs : SortedN l) (used : List ByteArray) {y : Im} (hy : y ∈ l) : (orderOf l used).any (fun x => x.name.toList == y.name.toList) = isFree used y := by
  rw [Bool.eq_iff_iff, List.any_eq_true]
  constructor
  · rintro ⟨x, hx, he⟩
    obtain ⟨h1, h2⟩ := orderOf_mem_iff.1 hx
    rw [← name_inj hs h1 hy (toList_inj he)]; exact h2
  · intro h; exact ⟨y, orderOf_mem_iff.2 ⟨hy, h⟩, by simp⟩
theorem all_used (used : List ByteArray) (y : Im) : used.all (fun t => t.toList != y.name.toList) = isFree used y := by
  unfold isFree hasB
  rw [List.all_eq_not_any_not]
  congr 2
  funext t
  simp [bne]
theorem any_snoc {α : Type} (f : α → Bool) (l : List α) (k : Nat) (hk : k < l.length) : (l.take (k + 1)).any f = ((l.take k).any f || f l[k]) := by
  rw [List.take_succ_eq_append_getElem hk, List.any_append]; simp
theorem all_snoc {α : Type} (f : α → Bool) (l : List α) (k : Nat) (hk : k < l.length) : (l.take (k + 1)).all f = ((l.take k).all f && f l[k]) := by
  rw [List.take_succ_eq_append_getElem hk, List.all_append]; simp
theorem orderOf_lt {l : List Im} (hs : SortedN l) (used : List ByteArray) (i : Nat) (hi : i + 1 < (orderOf l used).length) : imlt (orderOf l used)[i] (orderOf l used)[i + 1] = true := by
  have hp : (orderOf l used).Pairwise fun x y => imLe x y = true := List.pairwise_mergeSort imLe_trans imLe_total _
  have hle := List.pairwise_iff_getElem.1 hp i (i + 1) (by omega) hi (by omega)
  have hn : ((orderOf l used).map Im.name).Nodup := by
    have h1 := sorted_nodup hs
    have h2 : ((l.filter (isFree used)).map Im.name).Nodup := h1.sublist (List.filter_sublist.map _)
    exact ((List.mergeSort_perm (l.filter (isFree used)) imLe).map Im.name).symm.nodup h2
  have hne := List.pairwise_iff_getElem.1 (List.pairwise_map.1 hn) i (i + 1) (by omega) hi (by omega)
  unfold imLe at hle
  cases h : imlt (orderOf l used)[i] (orderOf l used)[i + 1]
  · have := imlt_total h (by simpa using hle)
    exact absurd (congrArg Im.name this) hne
  · rfl
theorem orderD_any (l : List Im) (us : List ByteArray) (A B : Option Addr) (c d : Nat) (w : World) (hr : Rds w encI A l) (hs : Rds w encS B us) (hl : l.length ≤ 100000) (hm : us.length ≤ 9223372036854775807) :
    Calls Try.prog 44 #[.slice A l.length c, .slice B us.length d] w fun e w' => ∃ (o : List Im) (A' : Option Addr) (c' : Nat), e = .returned (.slice A' o.length c') ∧ Hid (o = orderOf l us) ∧ Own w' w.heap.size 46 encI (.slice A' o.length c') o ∧ Below w.heap.size w w' :=
  (orderV_any rfl A B c d w hr hs hl hm).mono fun _ _ ⟨A', c', h1, h2, h3⟩ => ⟨_, A', c', h1, Lib.hid rfl, h2, h3⟩

set_option maxRecDepth 100000 in
set_option maxHeartbeats 16000000 in
theorem imageOrder_any (l : List Im) (used : List ByteArray) (A B : Option Addr) (c d : Nat) (w : World) (hr : Rds w encI A l) (hu : Rds w encS B used) (hl : l.length ≤ 9223372036854775807) (hm : used.length ≤ 9223372036854775807) :
    Calls Try.prog 12 #[.slice A l.length c, .slice B used.length d] w fun e w' => e = .returned (.bool true) ∧ Below w.heap.size w w' := by
  have HR := Lib.hid hr
  have HU := Lib.hid hu
  clear hr hu
  go_enter Try.func12, Try.ntmps12
  go_wp2_with fail
  refine (awake15_any _).mono ?_; rintro e w0 ⟨rfl, hb0⟩
  have HP0 := Lib.hid (hb0)
  clear hb0
  go_wp2_with fail
  refine (few_b l A c _ (HR.out.below HP0.out) hl).mono ?_; rintro e w1 ⟨rfl, hb1⟩
  have HP1 := Lib.hid (HP0.out.trans (hb1.mono HP0.out.size))
  clear HP0 hb1
  cases hcond : fewIB l
  case false =>
    clear hcond
    go_wp2_with fail
    refine (awake15_any _).mono ?_; rintro e w2 ⟨rfl, hb2⟩
    have HP2 := Lib.hid (HP1.out.trans (hb2.mono HP1.out.size))
    clear HP1 hb2
    go_wp2_with fail
    go_ret
    exact ⟨rfl, HP2.out⟩
  case true =>
    have HF := Lib.hid hcond
    clear hcond
    go_wp2_with fail
    refine (namesT_b used B d _ (HU.out.below HP1.out) hm).mono ?_; rintro e w2 ⟨rfl, hb2⟩
    have HP2 := Lib.hid (HP1.out.trans (hb2.mono HP1.out.size))
    clear HP1 hb2
    cases hcond : namesB used
    case false =>
      clear hcond
      go_wp2_with fail
      refine (awake15_any _).mono ?_; rintro e w3 ⟨rfl, hb3⟩
      have HP3 := Lib.hid (HP2.out.trans (hb3.mono HP2.out.size))
      clear HP2 hb3
      go_wp2_with fail
      go_ret
      exact ⟨rfl, HP3.out⟩
    case true =>
      have HN := Lib.hid hcond
      clear hcond
      go_wp2_with fail
      refine (right_b l A c _ (HR.out.below HP2.out) hl).mono ?_; rintro e w3 ⟨rfl, hb3⟩
      have HP3 := Lib.hid (HP2.out.trans (hb3.mono HP2.out.size))
      clear HP2 hb3
      cases hcond : rightIB l
      case false =>
        clear hcond
        go_wp2_with fail
        refine (awake15_any _).mono ?_; rintro e w4 ⟨rfl, hb4⟩
        have HP4 := Lib.hid (HP3.out.trans (hb4.mono HP3.out.size))
        clear HP3 hb4
        go_wp2_with fail
        go_ret
        exact ⟨rfl, HP4.out⟩
      case true =>
        have HG := Lib.hid hcond
        clear hcond
        have hl1 : l.length ≤ 60 := few_len HF.out
        have hm1 : used.length ≤ 60 := names_len HN.out
        have HSO := Lib.hid (sorted_right HG.out)
        go_wp2_with fail
        refine (orderD_any l used A B c d _ (HR.out.below HP3.out) (HU.out.below HP3.out) (by omega) hm).mono ?_; rintro e w4 ⟨o, A1, c1, rfl, HO, hO, hb4⟩
        have HP4 := Lib.hid (And.intro (hO.mono HP3.out.size) (HP3.out.trans (hb4.mono HP3.out.size)))
        clear HP3 hb4 hO
        have hol : o.length ≤ 60 := by rw [HO.out]; exact Nat.le_trans (orderOf_len_le l used) hl1
        have HLT := Lib.hid (fun (i : Nat) (hi : i + 1 < o.length) => show imlt (o[i]'(by omega)) o[i + 1] = true from by have h := HO.out; subst h; exact orderOf_lt HSO.out used i hi)
        have HIN := Lib.hid (fun (y : Im) (hy : y ∈ l) => show o.any (fun x => x.name.toList == y.name.toList) = isFree used y from by rw [HO.out]; exact any_order HSO.out used hy)
        have HEQ := Lib.hid (fun (x y : Im) (hx : x ∈ o) (hy : y ∈ l) (h : (x.name.toList == y.name.toList) = true) => show x = y from name_inj HSO.out (by rw [HO.out] at hx; exact (orderOf_mem_iff.1 hx).1) hy (toList_inj h))
        have HFL : Hid ((l.filter (isFree used)).length = o.length) := by show _ = _; rw [HO.out]; exact (sortIm_len _).symm
        have HP := Lib.hid (And.intro HP4.out.1 HP4.out.2)
        clear HP4 HF HN HG
        go_wp2_with fail
        go_loopw [6, 7] (fun n i wr => ∃ k N : Nat, k ≤ l.length ∧ i = .int .i64 k ∧ n = .int .i64 N ∧ N = ((l.take k).filter (isFree used)).length ∧ Own wr w.heap.size 46 encI (.slice A1 o.length c1) o ∧ Below w.heap.size w wr) (fun _ i _ => l.length - (intOf i).toNat)
        case atStart => exact ⟨0, 0, by omega, rfl, rfl, rfl, HP.out.1, HP.out.2⟩
        case round =>
          clear HP
          obtain ⟨k, N, hk, rfl, rfl, h0, hO, hB⟩ := hrel
          have hNk : N ≤ 60 := by rw [h0]; have := List.length_filter_le (isFree used) (l.take k); rw [List.length_take] at this; omega
          have H0 := Lib.hid h0
          have HP := Lib.hid (And.intro hO hB)
          clear h0 hO hB
          by_cases hlt : k < l.length
          · have dk : decide ((k : Int) < (l.length : Int)) = true := decide_eq_true (by omega)
            have dk2 : (k : Int) < (l.length : Int) := by omega
            have HYES := Lib.hid (filter1_yes (isFree used) l k hlt)
            have HNO := Lib.hid (filter1_no (isFree used) l k hlt)
            have HMEM := Lib.hid (List.getElem_mem hlt)
            have HCELL := Lib.hid (fun (wq : World) (hq : Below w.heap.size w wq) => (HR.out.below hq).im hlt)
            generalize l[k] = y at *
            go_wp2_with fail
            go_loopw [8, 9] (fun ib i wr => ∃ (q : Nat) (b : Bool), q ≤ o.length ∧ i = .int .i64 q ∧ ib = .bool b ∧ b = (o.take q).any (fun x => x.name.toList == y.name.toList) ∧ Own wr w.heap.size 46 encI (.slice A1 o.length c1) o ∧ Below w.heap.size w wr) (fun _ i _ => o.length - (intOf i).toNat)
            case atStart => exact ⟨0, false, by omega, rfl, rfl, rfl, HP.out.1, HP.out.2⟩
            case round =>
              clear HP
              obtain ⟨q, b, hq, rfl, rfl, hb, hO, hB⟩ := hrel
              have HBB := Lib.hid hb
              have HP := Lib.hid (And.intro hO hB)
              clear hb hO hB
              by_cases hqlt : q < o.length
              · have dq : decide ((q : Int) < (o.length : Int)) = true := decide_eq_true (by omega)
                have dq2 : (q : Int) < (o.length : Int) := by omega
                obtain ⟨b1, o1, rfl, hb1, x0, x1, x2⟩ := HP.out.1.toRds.im hqlt
                obtain ⟨b2, o2, rfl, hb2, y0, y1, y2⟩ := HCELL.out _ HP.out.2
                have HSN := Lib.hid (any_snoc (fun x : Im => x.name.toList == y.name.toList) o q hqlt)
                have HXM := Lib.hid (HEQ.out o[q] y (List.getElem_mem hqlt) HMEM.out)
                generalize o[q] = x at *
                cases b
                · cases he : (x.name.toList == y.name.toList)
                  · have HN2 : Hid (false = (o.take (q + 1)).any (fun x => x.name.toList == y.name.toList)) := by show _ = _; rw [HSN.out, ← HBB.out, he]; rfl
                    go_wp2_with fail
                    go_quiet (fail)
                    go_wp2_with fail
                    go_roundw
                    case rel => exact ⟨q + 1, false, by omega, by go_num, rfl, HN2.out, HP.out.1.below (below_ofDrewN ⟨_, rfl⟩) (Nat.le_refl _), HP.out.2.trans ((below_ofDrewN ⟨_, rfl⟩).mono HP.out.2.size)⟩
                    case measure => simp [intOf]; omega
                  · have HN2 : Hid (true = (o.take (q + 1)).any (fun x => x.name.toList == y.name.toList)) := by show _ = _; rw [HSN.out, ← HBB.out, he]; rfl
                    obtain rfl := HXM.out he
                    go_wp2_with fail
                    go_quiet (fail)
                    go_wp2_with fail
                    go_roundw
                    case rel => exact ⟨q + 1, true, by omega, by go_num, rfl, HN2.out, HP.out.1.below (below_ofDrewN ⟨_, rfl⟩) (Nat.le_refl _), HP.out.2.trans ((below_ofDrewN ⟨_, rfl⟩).mono HP.out.2.size)⟩
                    case measure => simp [intOf]; omega
                · have HN2 : Hid (true = (o.take (q + 1)).any (fun x => x.name.toList == y.name.toList)) := by show _ = _; rw [HSN.out, ← HBB.out]; rfl
                  go_wp2_with fail
                  go_quiet (fail)
                  go_wp2_with fail
                  go_roundw
                  case rel => exact ⟨q + 1, true, by omega, by go_num, rfl, HN2.out, HP.out.1.below (below_ofDrewN ⟨_, rfl⟩) (Nat.le_refl _), HP.out.2.trans ((below_ofDrewN ⟨_, rfl⟩).mono HP.out.2.size)⟩
                  case measure => simp [intOf]; omega
              · obtain rfl : q = o.length := by omega
                have dq : decide ((o.length : Int) < (o.length : Int)) = false := by simp
                have HBF : Hid (b = isFree used y) := by
                  show b = _
                  have := HBB.out
                  rw [List.take_length] at this
                  rw [this]; exact HIN.out y HMEM.out
                clear HBB
                go_wp2_with fail
                go_loopw [10, 11] (fun ib i wr => ∃ (q : Nat) (f : Bool), q ≤ used.length ∧ i = .int .i64 q ∧ ib = .bool f ∧ f = (used.take q).all (fun t => t.toList != y.name.toList) ∧ Own wr w.heap.size 46 encI (.slice A1 o.length c1) o ∧ Below w.heap.size w wr) (fun _ i _ => used.length - (intOf i).toNat)
                case atStart => exact ⟨0, true, by omega, rfl, rfl, rfl, HP.out.1, HP.out.2⟩
                case round =>
                  clear HP
                  obtain ⟨q, f, hq, rfl, rfl, hf, hO, hB⟩ := hrel
                  have HFF := Lib.hid hf
                  have HP := Lib.hid (And.intro hO hB)
                  clear hf hO hB
                  by_cases hqlt : q < used.length
                  · have dq3 : decide ((q : Int) < (used.length : Int)) = true := decide_eq_true (by omega)
                    have dq2 : (q : Int) < (used.length : Int) := by omega
                    obtain ⟨b1, o1, rfl, hb1, x0⟩ := (HU.out.below HP.out.2).str hqlt
                    obtain ⟨b2, o2, rfl, hb2, y0, y1, y2⟩ := HCELL.out _ HP.out.2
                    have HSN := Lib.hid (all_snoc (fun t : ByteArray => t.toList != y.name.toList) used q hqlt)
                    generalize used[q] = t at *
                    cases f
                    · have HN2 : Hid (false = (used.take (q + 1)).all (fun t => t.toList != y.name.toList)) := by show _ = _; rw [HSN.out, ← HFF.out]; rfl
                      go_wp2_with fail
                      go_quiet (fail)
                      go_wp2_with fail
                      go_roundw
                      case rel => exact ⟨q + 1, false, by omega, by go_num, rfl, HN2.out, HP.out.1.below (below_ofDrewN ⟨_, rfl⟩) (Nat.le_refl _), HP.out.2.trans ((below_ofDrewN ⟨_, rfl⟩).mono HP.out.2.size)⟩
                      case measure => simp [intOf]; omega
                    · cases he : (t.toList == y.name.toList)
                      · have he3 : (t.toList != y.name.toList) = true := by unfold bne; rw [he]; rfl
                        have HN2 : Hid (true = (used.take (q + 1)).all (fun t => t.toList != y.name.toList)) := by show _ = _; rw [HSN.out, ← HFF.out, he3]; rfl
                        go_wp2_with fail
                        go_quiet (fail)
                        go_wp2_with fail
                        go_roundw
                        case rel => exact ⟨q + 1, true, by omega, by go_num, rfl, HN2.out, HP.out.1.below (below_ofDrewN ⟨_, rfl⟩) (Nat.le_refl _), HP.out.2.trans ((below_ofDrewN ⟨_, rfl⟩).mono HP.out.2.size)⟩
                        case measure => simp [intOf]; omega
                      · have he3 : (t.toList != y.name.toList) = false := by unfold bne; rw [he]; rfl
                        have HN2 : Hid (false = (used.take (q + 1)).all (fun t => t.toList != y.name.toList)) := by show _ = _; rw [HSN.out, ← HFF.out, he3]; rfl
                        go_wp2_with fail
                        go_quiet (fail)
                        go_wp2_with fail
                        go_roundw
                        case rel => exact ⟨q + 1, false, by omega, by go_num, rfl, HN2.out, HP.out.1.below (below_ofDrewN ⟨_, rfl⟩) (Nat.le_refl _), HP.out.2.trans ((below_ofDrewN ⟨_, rfl⟩).mono HP.out.2.size)⟩
                        case measure => simp [intOf]; omega
                  · obtain rfl : q = used.length := by omega
                    have dq3 : decide ((used.length : Int) < (used.length : Int)) = false := by simp
                    have hff : f = isFree used y := by
                      have := HFF.out
                      rw [List.take_length] at this
                      rw [this]; exact all_used used y
                    have hbf := HBF.out
                    clear HFF HBF
                    cases hfree : isFree used y
                    · rw [hfree] at hff hbf
                      subst hff
                      subst hbf
                      have HN2 := Lib.hid (show N = ((l.take (k + 1)).filter (isFree used)).length by rw [HNO.out hfree]; exact H0.out)
                      clear hfree
                      go_wp2_with fail
                      go_roundw
                      case rel => exact ⟨k + 1, N, by omega, by go_num, rfl, HN2.out, HP.out.1, HP.out.2⟩
                      case measure => simp [intOf]; omega
                    · rw [hfree] at hff hbf
                      subst hff
                      subst hbf
                      have HN2 := Lib.hid (show N + 1 = ((l.take (k + 1)).filter (isFree used)).length by rw [HYES.out hfree, List.length_append, ← H0.out]; rfl)
                      clear hfree
                      go_wp2_with fail
                      go_roundw
                      case rel => exact ⟨k + 1, N + 1, by omega, by go_num, by go_num, HN2.out, HP.out.1, HP.out.2⟩
                      case measure => simp [intOf]; omega
          · obtain rfl : k = l.length := by omega
            have dk : decide ((l.length : Int) < (l.length : Int)) = false := by simp
            have dfin : ((o.length : Int) == (N : Int)) = true := by
              have h1 := H0.out
              rw [List.take_length, HFL.out] at h1
              exact beq_iff_eq.2 (by omega)
            clear H0
            go_wp2_with fail
            go_loopw [12] (fun i wr => ∃ q : Nat, q ≤ o.length ∧ i = .int .i64 (q + 1) ∧ Own wr w.heap.size 46 encI (.slice A1 o.length c1) o ∧ Below w.heap.size w wr) (fun i _ => o.length + 1 - (intOf i).toNat)
            case atStart => exact ⟨0, by omega, rfl, HP.out.1, HP.out.2⟩
            case round =>
              clear HP
              obtain ⟨q, hq, rfl, hO, hB⟩ := hrel
              have HP := Lib.hid (And.intro hO hB)
              clear hO hB
              by_cases hqlt : q + 1 < o.length
              · have dq : decide ((q : Int) + 1 < (o.length : Int)) = true := decide_eq_true (by omega)
                have dq2 : (q : Int) + 1 < (o.length : Int) := by omega
                have dq5 : (0 : Int) ≤ (q : Int) + 1 := by omega
                have dq6 : ((q : Int) + 1).toNat = q + 1 := by omega
                have hw1 : IntKind.i64.wrap ((q : Int) + 1 - 1) = (q : Int) := by rw [IntKind.wrap_i64]; omega
                have hw2 : (q : Int) + 1 - 1 = (q : Int) := by omega
                have hw3 : (q : Int) < (o.length : Int) := by omega
                have hlt2 := (imlt_iff _ _).1 (HLT.out q hqlt)
                obtain ⟨b1, o1, hA1, hb1, x0, x1, x2⟩ := HP.out.1.toRds.im hqlt
                obtain ⟨b2, o2, e2, hb2, y0, y1, y2⟩ := HP.out.1.toRds.im (show q < o.length by omega)
                rw [hA1] at e2
                injection e2 with e2
                injection e2 with e2 e2'
                subst e2
                subst e2'
                subst hA1
                generalize o[q + 1] = b at *
                generalize (o[q]'(by omega)) = a at *
                have HB2 := Lib.hid (((Below.refl wr.heap.size wr).alloc (Nat.le_refl _) (.cells a.cells 46)).alloc (by simp) (.cells b.cells 46))
                have hbl : blt a.name b.name = Op.bytesLess a.name.toList b.name.toList := rfl
                have HW2 : ∃ q' : Int, q' = (q : Int) + 1 := ⟨_, rfl⟩
                clear HW2
                rcases hlt2 with h1 | ⟨h1, h2 | ⟨h2, h3⟩⟩
                · have d1 : decide (b.last < a.last) = false := decide_eq_false (by omega)
                  have d2 : (a.last == b.last) = false := beq_eq_false_iff_ne.2 (by omega)
                  clear h1 hbl
                  go_wp2_with fail
                  go_roundw
                  case rel => exact ⟨q + 1, by omega, by go_num, HP.out.1.below HB2.out (Nat.le_refl _), HP.out.2.trans (HB2.out.mono HP.out.2.size)⟩
                  case measure => simp [intOf]; omega
                · have d1 : decide (b.last < a.last) = false := decide_eq_false (by omega)
                  have d2 : (a.last == b.last) = true := beq_iff_eq.2 h1
                  have d3 : decide (a.size < b.size) = false := decide_eq_false (by omega)
                  have d4 : (a.size == b.size) = false := beq_eq_false_iff_ne.2 (by omega)
                  clear h1 h2 hbl
                  go_wp2_with fail
                  go_roundw
                  case rel => exact ⟨q + 1, by omega, by go_num, HP.out.1.below HB2.out (Nat.le_refl _), HP.out.2.trans (HB2.out.mono HP.out.2.size)⟩
                  case measure => simp [intOf]; omega
                · have d1 : decide (b.last < a.last) = false := decide_eq_false (by omega)
                  have d2 : (a.last == b.last) = true := beq_iff_eq.2 h1
                  have d3 : decide (a.size < b.size) = false := decide_eq_false (by omega)
                  have d4 : (a.size == b.size) = true := beq_iff_eq.2 h2
                  have d5 := hbl.symm.trans h3
                  clear h1 h2 h3 hbl
                  go_wp2_with fail
                  go_roundw
                  case rel => exact ⟨q + 1, by omega, by go_num, HP.out.1.below HB2.out (Nat.le_refl _), HP.out.2.trans (HB2.out.mono HP.out.2.size)⟩
                  case measure => simp [intOf]; omega
              · have dq : decide ((q : Int) + 1 < (o.length : Int)) = false := decide_eq_false (by omega)
                go_wp2_with fail
                go_ret
                exact ⟨rfl, HP.out.2⟩
end Go.Proofs.Ytfaklhdafpbkmaa
