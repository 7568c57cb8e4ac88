/- The lost containers: the program's and the reference's. -/
import Derived.Test.YtfaklhdafpbkmaaConts
import Derived.Outline
namespace Go.Proofs.Ytfaklhdafpbkmaa
open Go.RowKit

theorem elemS : Elem Try.prog 23 9 1 16 := by
  obtain ⟨i, h1, h2, h3, h4⟩ := info_parts (show (Try.prog.info? 9).map (fun i => (i.zero, i.size, i.bytes)) = some (some (.string ⟨#[]⟩), 1, 16) by kernel_rfl)
  exact ⟨Try.underlying23, i, _, h1, h2, h3, h4, rfl⟩

def isLost (pods : List ByteArray) (x : Cn) : Bool := (x.state == 3) && !hasB pods x.id
/-- the Ids of the containers of which f holds -/
def idsOf (f : Cn → Bool) (l : List Cn) : List ByteArray := (l.filter f).map Cn.id
theorem idsOf_len (f : Cn → Bool) (l : List Cn) : (idsOf f l).length ≤ l.length := by unfold idsOf; rw [List.length_map]; exact List.length_filter_le _ _
theorem idsOf_yes (f : Cn → Bool) (l : List Cn) (k : Nat) (hk : k < l.length) (h : f l[k] = true) : idsOf f (l.take (k + 1)) = idsOf f (l.take k) ++ [l[k].id] := by
  unfold idsOf; rw [List.take_succ_eq_append_getElem hk, List.filter_append, List.map_append]; simp [h]
theorem idsOf_no (f : Cn → Bool) (l : List Cn) (k : Nat) (hk : k < l.length) (h : f l[k] = false) : idsOf f (l.take (k + 1)) = idsOf f (l.take k) := by
  unfold idsOf; rw [List.take_succ_eq_append_getElem hk, List.filter_append, List.map_append]; simp [h]

/-- a slice of texts is answered, all else is as it was -/
def GivesTexts (m : List ByteArray) (w : World) (e : Ending) (w' : World) : Prop :=
  ∃ A c, e = .returned (.slice A m.length c) ∧ Own w' w.heap.size 9 encS (.slice A m.length c) m ∧ Below w.heap.size w w'

set_option maxHeartbeats 1000000 in
theorem refLost_any (l : List Cn) (pods : List ByteArray) (A B : Option Addr) (c d : Nat) (w : World) (hr : Rds w encC A l) (hs : Rds w encS B pods) (hl : l.length ≤ 100000) (hm : pods.length ≤ 9223372036854775807) :
    Calls Try.prog 22 #[.slice A l.length c, .slice B pods.length d] w (GivesTexts (idsOf (isLost pods) l) w) := by
  have HR := Lib.hid hr
  have HS := Lib.hid hs
  clear hr hs
  go_enter Try.func22, Try.ntmps22
  go_wp2_with fail
  go_loopw [5, 6] (fun b i wr => ∃ (k : Nat) (m : List ByteArray) (A' : Option Addr) (c' : Nat), k ≤ l.length ∧ i = .int .i64 k ∧ m = idsOf (isLost pods) (l.take k) ∧ b = .slice A' m.length c' ∧ Own wr w.heap.size 9 encS (.slice A' m.length c') m ∧ Below w.heap.size w wr) (fun _ i _ => l.length - (intOf i).toNat)
  case atStart => exact ⟨0, [], none, 0, by omega, rfl, rfl, rfl, Own.nil_ _ _ _ _, Below.refl _ _⟩
  case round =>
    obtain ⟨k, m, A', c', hk, rfl, hm', rfl, hO, hB⟩ := hrel
    have HM := Lib.hid hm'
    have HB := Lib.hid (And.intro hO hB)
    have hml : m.length ≤ 100000 := by rw [hm']; have := idsOf_len (isLost pods) (l.take k); rw [List.length_take] at this; omega
    clear hm' hO hB
    by_cases hlt : k < l.length
    · obtain ⟨b, off, rfl, hb, hc0, hc1, _, _⟩ := (HR.out.below HB.out.2).cn hlt
      have dk : decide ((k : Int) < (l.length : Int)) = true := decide_eq_true (by omega)
      have dk2 : (k : Int) < (l.length : Int) := by omega
      have hyes := idsOf_yes (isLost pods) l k hlt
      have hno := idsOf_no (isLost pods) l k hlt
      have hdef : isLost pods l[k] = ((l[k].state == 3) && !hasB pods l[k].id) := rfl
      generalize l[k] = x at *
      have HY := Lib.hid (And.intro hyes (And.intro hno hdef))
      clear hyes hno hdef
      cases hst : (x.state == 3)
      · have HN := Lib.hid (HY.out.2.1 (by rw [HY.out.2.2, hst]; rfl))
        go_wp2_with fail
        go_roundw
        case rel => exact ⟨k + 1, m, A', c', by omega, by go_num, by rw [HN.out]; exact HM.out, rfl, HB.out.1, HB.out.2⟩
        case measure => simp [intOf]; omega
      · go_wp2_with fail
        refine (has_any pods x.id B d _ (HS.out.below HB.out.2) hm).mono ?_; rintro e w1 ⟨rfl, rfl⟩
        cases hhas : hasB pods x.id
        · have HN := Lib.hid (HY.out.1 (by rw [HY.out.2.2, hst, hhas]; rfl))
          have HO1 : Hid (Own (wr.alloc (.cells #[.string x.id] 9)) w.heap.size 9 encS (.slice A' m.length c') m ∧ Below w.heap.size w (wr.alloc (.cells #[.string x.id] 9)) ∧ Rds (wr.alloc (.cells #[.string x.id] 9)) encS (some ⟨wr.heap.size, 0, none⟩) [x.id]) := ⟨HB.out.1.alloc _, HB.out.2.alloc HB.out.2.size _, Rds.made wr encS [x.id] 9 #[.string x.id] (0, 0) rfl⟩
          clear hhas hst
          go_wp2_with (at_builtin; refine wl_app elemS encS rfl (.tmp 30) (.tmp 36) rfl w.heap.size _ m rfl HO1.out.1 _ [x.id] 1 rfl HO1.out.2.2 (by simp; omega) (by simp; omega) HO1.out.2.1.size ?_; intro A3 k3 w3 hown3 hgrow3 _; have hbel3 := HO1.out.1.belowGrown HO1.out.2.1 hgrow3 (Nat.le_refl _) HO1.out.2.1.size; have HX3 := Lib.hid (And.intro hown3 hbel3); clear hown3 hgrow3 hbel3)
          have hl1 : m.length + [x.id].length = (m ++ [x.id]).length := (List.length_append).symm
          have hx3 := HX3.out.1
          rw [hl1] at hx3
          go_roundw
          case rel => exact ⟨k + 1, m ++ [x.id], A3, k3, by omega, by go_num, by rw [HN.out]; exact congrArg (· ++ [x.id]) HM.out, by first | rfl | (rw [← hl1]; rfl), hx3, HX3.out.2⟩
          case measure => simp [intOf]; omega
        · have HN := Lib.hid (HY.out.2.1 (by rw [HY.out.2.2, hst, hhas]; rfl))
          clear hhas hst
          go_wp2_with fail
          go_roundw
          case rel => exact ⟨k + 1, m, A', c', by omega, by go_num, by rw [HN.out]; exact HM.out, rfl, HB.out.1, HB.out.2⟩
          case measure => simp [intOf]; omega
    · obtain rfl : k = l.length := by omega
      have dk : decide ((l.length : Int) < (l.length : Int)) = false := by simp
      have hmm : m = idsOf (isLost pods) l := by have := HM.out; rwa [List.take_length] at this
      subst hmm
      go_wp2_with fail
      go_ret
      exact ⟨A', c', rfl, HB.out.1, HB.out.2⟩
set_option maxHeartbeats 1000000 in
theorem lost_any (l : List Cn) (pods : List ByteArray) (A B : Option Addr) (c d : Nat) (w : World) (hr : Rds w encC A l) (hs : Rds w encS B pods) (hl : l.length ≤ 100000) (hm : pods.length ≤ 9223372036854775807) :
    Calls Try.prog 21 #[.slice A l.length c, .slice B pods.length d] w (GivesTexts (idsOf (isLost pods) l) w) := by
  have HR := Lib.hid hr
  have HS := Lib.hid hs
  clear hr hs
  go_enter Try.func21, Try.ntmps21
  go_wp2_with fail
  go_loopw [5, 10] (fun b i wr => ∃ (k : Nat) (m : List ByteArray) (A' : Option Addr) (c' : Nat), k ≤ l.length ∧ i = .int .i64 k ∧ m = idsOf (isLost pods) (l.take k) ∧ b = .slice A' m.length c' ∧ Own wr w.heap.size 9 encS (.slice A' m.length c') m ∧ Below w.heap.size w wr) (fun _ i _ => l.length - (intOf i).toNat)
  case atStart => exact ⟨0, [], none, 0, by omega, rfl, rfl, rfl, Own.nil_ _ _ _ _, Below.refl _ _⟩
  case round =>
    obtain ⟨k, m, A', c', hk, rfl, hm', rfl, hO, hB⟩ := hrel
    have HM := Lib.hid hm'
    have HB := Lib.hid (And.intro hO hB)
    have hml : m.length ≤ 100000 := by rw [hm']; have := idsOf_len (isLost pods) (l.take k); rw [List.length_take] at this; omega
    clear hm' hO hB
    by_cases hlt : k < l.length
    · obtain ⟨b, off, rfl, hb, hc0, hc1, hc2, hc3⟩ := (HR.out.below HB.out.2).cn hlt
      have dk : decide ((k : Int) < (l.length : Int)) = true := decide_eq_true (by omega)
      have dk2 : (k : Int) < (l.length : Int) := by omega
      have hyes := idsOf_yes (isLost pods) l k hlt
      have hno := idsOf_no (isLost pods) l k hlt
      have hdef : isLost pods l[k] = ((l[k].state == 3) && !hasB pods l[k].id) := rfl
      generalize l[k] = x at *
      have HY := Lib.hid (And.intro hyes (And.intro hno hdef))
      clear hyes hno hdef
      have HW : Hid (Own (wr.alloc (.cells x.cells 35)) w.heap.size 9 encS (.slice A' m.length c') m ∧ Below w.heap.size w (wr.alloc (.cells x.cells 35))) := ⟨HB.out.1.alloc _, HB.out.2.alloc HB.out.2.size _⟩
      cases hst : (x.state == 3)
      · have HN := Lib.hid (HY.out.2.1 (by rw [HY.out.2.2, hst]; rfl))
        go_wp2_with fail
        go_roundw
        case rel => exact ⟨k + 1, m, A', c', by omega, by go_num, by rw [HN.out]; exact HM.out, rfl, HW.out.1, HW.out.2⟩
        case measure => simp [intOf]; omega
      · go_wp2_with fail
        refine (contains_any pods x.id B d _ (HS.out.below HW.out.2) hm).mono ?_; rintro e w1 ⟨rfl, rfl⟩
        cases hhas : hasB pods x.id
        · have HN := Lib.hid (HY.out.1 (by rw [HY.out.2.2, hst, hhas]; rfl))
          have hz1 : (wr.alloc (.cells x.cells 35)).heap.size = wr.heap.size + 1 := by simp
          have hrm := Rds.made (wr.alloc (.cells x.cells 35)) encS [x.id] 9 #[.string x.id] (0, 0) rfl
          rw [hz1] at hrm
          have HO1 : Hid (Own ((wr.alloc (.cells x.cells 35)).alloc (.cells #[.string x.id] 9)) w.heap.size 9 encS (.slice A' m.length c') m ∧ Below w.heap.size w ((wr.alloc (.cells x.cells 35)).alloc (.cells #[.string x.id] 9)) ∧ Rds ((wr.alloc (.cells x.cells 35)).alloc (.cells #[.string x.id] 9)) encS (some ⟨wr.heap.size + 1, 0, none⟩) [x.id]) := ⟨HW.out.1.alloc _, HW.out.2.alloc HW.out.2.size _, hrm⟩
          clear hz1 hrm
          clear hhas hst
          go_wp2_with (at_builtin; refine wl_app elemS encS rfl (.tmp 25) (.tmp 28) rfl w.heap.size _ m rfl HO1.out.1 _ [x.id] 1 rfl HO1.out.2.2 (by simp; omega) (by simp; omega) HO1.out.2.1.size ?_; intro A3 k3 w3 hown3 hgrow3 _; have hbel3 := HO1.out.1.belowGrown HO1.out.2.1 hgrow3 (Nat.le_refl _) HO1.out.2.1.size; have HX3 := Lib.hid (And.intro hown3 hbel3); clear hown3 hgrow3 hbel3)
          have hl1 : m.length + [x.id].length = (m ++ [x.id]).length := (List.length_append).symm
          have hx3 := HX3.out.1
          rw [hl1] at hx3
          go_roundw
          case rel => exact ⟨k + 1, m ++ [x.id], A3, k3, by omega, by go_num, by rw [HN.out]; exact congrArg (· ++ [x.id]) HM.out, by first | rfl | (rw [← hl1]; rfl), hx3, HX3.out.2⟩
          case measure => simp [intOf]; omega
        · have HN := Lib.hid (HY.out.2.1 (by rw [HY.out.2.2, hst, hhas]; rfl))
          clear hhas hst
          go_wp2_with fail
          go_roundw
          case rel => exact ⟨k + 1, m, A', c', by omega, by go_num, by rw [HN.out]; exact HM.out, rfl, HW.out.1, HW.out.2⟩
          case measure => simp [intOf]; omega
    · obtain rfl : k = l.length := by omega
      have dk : decide ((l.length : Int) < (l.length : Int)) = false := by simp
      have hmm : m = idsOf (isLost pods) l := by have := HM.out; rwa [List.take_length] at this
      subst hmm
      go_wp2_with fail
      go_ret
      exact ⟨A', c', rfl, HB.out.1, HB.out.2⟩
end Go.Proofs.Ytfaklhdafpbkmaa
