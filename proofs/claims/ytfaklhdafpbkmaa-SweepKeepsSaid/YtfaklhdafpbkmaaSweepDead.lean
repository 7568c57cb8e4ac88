/- sweep.Dead: the dead ones' Ids, in the order in which they go. -/
import Derived.Test.YtfaklhdafpbkmaaSortC
namespace Go.Proofs.Ytfaklhdafpbkmaa
open Go.RowKit

theorem elemC : Elem Try.prog 22 35 4 40 := by
  obtain ⟨i, h1, h2, h3, h4⟩ := info_parts (show (Try.prog.info? 35).map (fun i => (i.zero, i.size, i.bytes)) = some (some (.agg #[.string ⟨#[]⟩, .int .i64 0, .int .i64 0, .int .i64 0]), 4, 40) by kernel_rfl)
  exact ⟨Try.underlying22, i, _, h1, h2, h3, h4, rfl⟩
theorem filter_yes {α : Type} (f : α → Bool) (l : List α) (k : Nat) (hk : k < l.length) (h : f l[k] = true) : (l.take (k + 1)).filter f = (l.take k).filter f ++ [l[k]] := by
  rw [List.take_succ_eq_append_getElem hk, List.filter_append]; simp [h]
theorem filter_no {α : Type} (f : α → Bool) (l : List α) (k : Nat) (hk : k < l.length) (h : f l[k] = false) : (l.take (k + 1)).filter f = (l.take k).filter f := by
  rw [List.take_succ_eq_append_getElem hk, List.filter_append]; simp [h]
/-- the dead ones, sorted -/
def SortedDead (l : List Cn) (pods m : List ByteArray) : Prop := ∃ S : List Cn, S.Perm (l.filter (isDead pods)) ∧ (S.Pairwise fun x y => cnlt y x = false) ∧ m = S.map Cn.id
def GivesSorted (l : List Cn) (pods : List ByteArray) (w : World) (e : Ending) (w' : World) : Prop := ∃ m, SortedDead l pods m ∧ GivesTexts m w e w'

set_option maxHeartbeats 2000000 in
theorem dead_any (l : List Cn) (pods : List ByteArray) (A B : Option Addr) (c d : Nat) (w : World) (hr : Rds w encC A l) (hs : Rds w encS B pods) (hl : l.length ≤ 100000) (hm : pods.length ≤ 9223372036854775807) :
    Calls Try.prog 23 #[.slice A l.length c, .slice B pods.length d] w (GivesSorted l pods w) := by
  have HR := Lib.hid hr
  have HS := Lib.hid hs
  clear hr hs
  go_enter Try.func23, Try.ntmps23
  go_wp2_with fail
  go_loopw [5, 13] (fun b i wr => ∃ (k : Nat) (m : List Cn) (A' : Option Addr) (c' : Nat), k ≤ l.length ∧ i = .int .i64 k ∧ m = (l.take k).filter (isDead pods) ∧ b = .slice A' m.length c' ∧ Own wr w.heap.size 35 encC (.slice A' m.length c') m ∧ Below w.heap.size w wr) (fun _ i _ => l.length - (intOf i).toNat)
  case atStart => exact ⟨0, [], none, 0, by omega, rfl, rfl, rfl, Own.nil_ _ _ _ _, Below.refl _ _⟩
  case round =>
    obtain ⟨k, m, A', c', hk, rfl, hm', rfl, hO, hB⟩ := hrel
    have HM := Lib.hid hm'
    have HB := Lib.hid (And.intro hO hB)
    have hml : m.length ≤ 100000 := by rw [hm']; have := List.length_filter_le (isDead pods) (l.take k); rw [List.length_take] at this; omega
    clear hm' hO hB
    by_cases hlt : k < l.length
    · obtain ⟨b, off, rfl, hb, hc0, hc1, hc2, hc3⟩ := (HR.out.below HB.out.2).cn hlt
      have dk : decide ((k : Int) < (l.length : Int)) = true := decide_eq_true (by omega)
      have dk2 : (k : Int) < (l.length : Int) := by omega
      have hyes := filter_yes (isDead pods) l k hlt
      have hno := filter_no (isDead pods) l k hlt
      have hdef : isDead pods l[k] = (!(l[k].state == 3) && !hasB pods l[k].id) := rfl
      generalize l[k] = x at *
      have HY := Lib.hid (And.intro hyes (And.intro hno hdef))
      clear hyes hno hdef
      have HW : Hid (Own (wr.alloc (.cells x.cells 35)) w.heap.size 35 encC (.slice A' m.length c') m ∧ Below w.heap.size w (wr.alloc (.cells x.cells 35))) := ⟨HB.out.1.alloc _, HB.out.2.alloc HB.out.2.size _⟩
      cases hst : (x.state == 3)
      · have hst2 : (x.state != 3) = true := by unfold bne; rw [hst]; rfl
        go_wp2_with fail
        refine (contains_any pods x.id B d _ (HS.out.below HW.out.2) hm).mono ?_; rintro e w1 ⟨rfl, rfl⟩
        cases hhas : hasB pods x.id
        · have HN := Lib.hid (HY.out.1 (by rw [HY.out.2.2, hst, hhas]; rfl))
          have hz1 : (wr.alloc (.cells x.cells 35)).heap.size = wr.heap.size + 1 := by simp
          have hrm := Rds.made (wr.alloc (.cells x.cells 35)) encC [x] 35 x.cells (0, 0) rfl
          rw [hz1] at hrm
          have HO1 : Hid (Own ((wr.alloc (.cells x.cells 35)).alloc (.cells x.cells 35)) w.heap.size 35 encC (.slice A' m.length c') m ∧ Below w.heap.size w ((wr.alloc (.cells x.cells 35)).alloc (.cells x.cells 35)) ∧ Rds ((wr.alloc (.cells x.cells 35)).alloc (.cells x.cells 35)) encC (some ⟨wr.heap.size + 1, 0, none⟩) [x]) := ⟨HW.out.1.alloc _, HW.out.2.alloc HW.out.2.size _, hrm⟩
          clear hhas hst hz1 hrm
          go_wp2_with (at_builtin; refine wl_app elemC encC rfl (.tmp 28) (.tmp 30) rfl w.heap.size _ m rfl HO1.out.1 _ [x] 1 rfl HO1.out.2.2 (by simp; omega) (by simp; omega) HO1.out.2.1.size ?_; intro A3 k3 w3 hown3 hgrow3 _; have hbel3 := HO1.out.1.belowGrown HO1.out.2.1 hgrow3 (Nat.le_refl _) HO1.out.2.1.size; have HX3 := Lib.hid (And.intro hown3 hbel3); clear hown3 hgrow3 hbel3)
          have hl1 : m.length + [x].length = (m ++ [x]).length := (List.length_append).symm
          have hx3 := HX3.out.1
          rw [hl1] at hx3
          go_roundw
          case rel => exact ⟨k + 1, m ++ [x], A3, k3, by omega, by go_num, by rw [HN.out]; exact congrArg (· ++ [x]) HM.out, by first | rfl | (rw [← hl1]; rfl), hx3, HX3.out.2⟩
          case measure => simp [intOf]; omega
        · have HN := Lib.hid (HY.out.2.1 (by rw [HY.out.2.2, hst, hhas]; rfl))
          clear hhas hst
          go_wp2_with fail
          go_roundw
          case rel => exact ⟨k + 1, m, A', c', by omega, by go_num, by rw [HN.out]; exact HM.out, rfl, HW.out.1, HW.out.2⟩
          case measure => simp [intOf]; omega
      · have HN := Lib.hid (HY.out.2.1 (by rw [HY.out.2.2, hst]; rfl))
        have hst2 : (x.state != 3) = false := by unfold bne; rw [hst]; rfl
        go_wp2_with fail
        go_roundw
        case rel => exact ⟨k + 1, m, A', c', by omega, by go_num, by rw [HN.out]; exact HM.out, rfl, HW.out.1, HW.out.2⟩
        case measure => simp [intOf]; omega
    · obtain rfl : k = l.length := by omega
      have dk : decide ((l.length : Int) < (l.length : Int)) = false := by simp
      have hmm : m = l.filter (isDead pods) := by have := HM.out; rwa [List.take_length] at this
      have HMM := Lib.hid hmm
      clear hmm
      go_wp2_with fail
      refine (sortC_any m A' c' wr w.heap.size HB.out.1 hml).mono ?_; rintro e w2 ⟨rfl, S, hperm, hsorted, hown2, hgrow2⟩
      have hbel2 := HB.out.1.belowGrown HB.out.2 hgrow2 (Nat.le_refl _) HB.out.2.size
      have hSl : S.length = m.length := hperm.length_eq
      have hSl2 : S.length ≤ 100000 := by omega
      have HSR : Hid (SortedDead l pods (S.map Cn.id)) := ⟨S, by rw [← HMM.out]; exact hperm, hsorted, rfl⟩
      rw [← hSl]
      have HB2 := Lib.hid (And.intro hown2.toRds hbel2)
      clear hperm hsorted hown2 hgrow2 hbel2 HB HM HMM hSl hml dk
      go_wp2_with fail
      go_loopw [8, 37] (fun b i wr => ∃ (k : Nat) (m : List ByteArray) (A' : Option Addr) (c' : Nat), k ≤ S.length ∧ i = .int .i64 k ∧ m = (S.take k).map Cn.id ∧ b = .slice A' m.length c' ∧ Own wr w2.heap.size 9 encS (.slice A' m.length c') m ∧ Below w2.heap.size w2 wr) (fun _ i _ => S.length - (intOf i).toNat)
      case atStart => exact ⟨0, [], none, 0, by omega, rfl, rfl, rfl, Own.nil_ _ _ _ _, Below.refl _ _⟩
      case round =>
        obtain ⟨k, n, A2, c2, hk, rfl, hm', rfl, hO, hB⟩ := hrel
        have HM := Lib.hid hm'
        have HB := Lib.hid (And.intro hO hB)
        have hml : n.length ≤ 100000 := by rw [hm', List.length_map, List.length_take]; omega
        clear hm' hO hB
        by_cases hlt : k < S.length
        · obtain ⟨b, off, rfl, hb, hc0, hc1, hc2, hc3⟩ := (HB2.out.1.below HB.out.2).cn hlt
          have dk : decide ((k : Int) < (S.length : Int)) = true := decide_eq_true (by omega)
          have dk2 : (k : Int) < (S.length : Int) := by omega
          have hnext : (S.take (k + 1)).map Cn.id = (S.take k).map Cn.id ++ [S[k].id] := by rw [List.take_succ_eq_append_getElem hlt, List.map_append]; rfl
          generalize S[k] = x at *
          have HN := Lib.hid hnext
          have hz1 : (wr.alloc (.cells x.cells 35)).heap.size = wr.heap.size + 1 := by simp
          have hrm := Rds.made (wr.alloc (.cells x.cells 35)) encS [x.id] 9 #[.string x.id] (0, 0) rfl
          rw [hz1] at hrm
          have HO1 : Hid (Own ((wr.alloc (.cells x.cells 35)).alloc (.cells #[.string x.id] 9)) w2.heap.size 9 encS (.slice A2 n.length c2) n ∧ Below w2.heap.size w2 ((wr.alloc (.cells x.cells 35)).alloc (.cells #[.string x.id] 9)) ∧ Rds ((wr.alloc (.cells x.cells 35)).alloc (.cells #[.string x.id] 9)) encS (some ⟨wr.heap.size + 1, 0, none⟩) [x.id]) := ⟨(HB.out.1.alloc _).alloc _, (HB.out.2.alloc HB.out.2.size _).alloc (by have := HB.out.2.size; simp; omega) _, hrm⟩
          clear hnext hz1 hrm
          go_wp2_with (at_builtin; refine wl_app elemS encS rfl (.tmp 41) (.tmp 44) rfl w2.heap.size _ n rfl HO1.out.1 _ [x.id] 1 rfl HO1.out.2.2 (by simp; omega) (by simp; omega) HO1.out.2.1.size ?_; intro A3 k3 w3 hown3 hgrow3 _; have hbel3 := HO1.out.1.belowGrown HO1.out.2.1 hgrow3 (Nat.le_refl _) HO1.out.2.1.size; have HX3 := Lib.hid (And.intro hown3 hbel3); clear hown3 hgrow3 hbel3)
          have hl1 : n.length + [x.id].length = (n ++ [x.id]).length := (List.length_append).symm
          have hx3 := HX3.out.1
          rw [hl1] at hx3
          go_roundw
          case rel => exact ⟨k + 1, n ++ [x.id], A3, k3, by omega, by go_num, by rw [HN.out]; exact congrArg (· ++ [x.id]) HM.out, by first | rfl | (rw [← hl1]; rfl), hx3, HX3.out.2⟩
          case measure => simp [intOf]; omega
        · obtain rfl : k = S.length := by omega
          have dk : decide ((S.length : Int) < (S.length : Int)) = false := by simp
          have hmm : n = S.map Cn.id := by have := HM.out; rwa [List.take_length] at this
          subst hmm
          go_wp2_with fail
          go_ret
          exact ⟨_, HSR.out, A2, c2, rfl, HB.out.1.mono HB2.out.2.size, HB2.out.2.trans (HB.out.2.mono HB2.out.2.size)⟩
end Go.Proofs.Ytfaklhdafpbkmaa
