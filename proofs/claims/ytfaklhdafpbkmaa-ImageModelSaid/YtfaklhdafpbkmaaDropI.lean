/- The reference's Drop, Few, Right and Place. -/
import Derived.Test.YtfaklhdafpbkmaaImgs
namespace Go.Proofs.Ytfaklhdafpbkmaa
open Go.RowKit

theorem filter1_yes {α : Type} (f : α → Bool) (l : List α) (k : Nat) (hk : k < l.length) (h : f l[k] = true) : (l.take (k + 1)).filter f = (l.take k).filter f ++ [l[k]] := by
  rw [List.take_succ_eq_append_getElem hk, List.filter_append]; simp [h]
theorem filter1_no {α : Type} (f : α → Bool) (l : List α) (k : Nat) (hk : k < l.length) (h : f l[k] = false) : (l.take (k + 1)).filter f = (l.take k).filter f := by
  rw [List.take_succ_eq_append_getElem hk, List.filter_append]; simp [h]
def dropOf (s : ByteArray) (l : List Im) : List Im := l.filter fun x => x.name.toList != s.toList
def GivesIms (m : List Im) (w : World) (e : Ending) (w' : World) : Prop :=
  ∃ A c, e = .returned (.slice A m.length c) ∧ Own w' w.heap.size 46 encI (.slice A m.length c) m ∧ Below w.heap.size w w'

set_option maxHeartbeats 1000000 in
theorem refDrop_any (l : List Im) (s : ByteArray) (A : Option Addr) (c : Nat) (w : World) (hr : Rds w encI A l) (hl : l.length ≤ 100000) :
    Calls Try.prog 48 #[.slice A l.length c, .string s] w (GivesIms (dropOf s l) w) := by
  have HR := Lib.hid hr
  clear hr
  go_enter Try.func48, Try.ntmps48
  go_wp2_with fail
  go_loopw [5, 6] (fun b i wr => ∃ (k : Nat) (m : List Im) (A' : Option Addr) (c' : Nat), k ≤ l.length ∧ i = .int .i64 k ∧ m = dropOf s (l.take k) ∧ b = .slice A' m.length c' ∧ Own wr w.heap.size 46 encI (.slice A' m.length c') m ∧ Below w.heap.size w wr) (fun _ i _ => l.length - (intOf i).toNat)
  case atStart => exact ⟨0, [], none, 0, by omega, rfl, rfl, rfl, Own.nil_ _ _ _ _, Below.refl _ _⟩
  case round =>
    obtain ⟨k, m, A', c', hk, rfl, hm', rfl, hO, hB⟩ := hrel
    have HM := Lib.hid hm'
    have HB := Lib.hid (And.intro hO hB)
    have hml : m.length ≤ 100000 := by rw [hm']; unfold dropOf; have := List.length_filter_le (fun x : Im => x.name.toList != s.toList) (l.take k); rw [List.length_take] at this; omega
    clear hm' hO hB
    by_cases hlt : k < l.length
    · obtain ⟨b, off, rfl, hb, hc0, hc1, hc2⟩ := (HR.out.below HB.out.2).im hlt
      have dk : decide ((k : Int) < (l.length : Int)) = true := decide_eq_true (by omega)
      have dk2 : (k : Int) < (l.length : Int) := by omega
      have hyes := filter1_yes (fun x : Im => x.name.toList != s.toList) l k hlt
      have hno := filter1_no (fun x : Im => x.name.toList != s.toList) l k hlt
      generalize l[k] = x at *
      have HY := Lib.hid (And.intro hyes hno)
      clear hyes hno
      cases he : (x.name.toList == s.toList)
      · have hst : (x.name.toList != s.toList) = true := by unfold bne; rw [he]; rfl
        have HN := Lib.hid (HY.out.1 hst)
        have HO1 : Hid (Own (wr.alloc (.cells x.cells 46)) w.heap.size 46 encI (.slice A' m.length c') m ∧ Below w.heap.size w (wr.alloc (.cells x.cells 46)) ∧ Rds (wr.alloc (.cells x.cells 46)) encI (some ⟨wr.heap.size, 0, none⟩) [x]) := ⟨HB.out.1.alloc _, HB.out.2.alloc HB.out.2.size _, Rds.made wr encI [x] 46 x.cells (0, 0) rfl⟩
        go_wp2_with (at_builtin; refine wl_app elemI encI rfl (.tmp 20) (.tmp 25) rfl w.heap.size _ m rfl HO1.out.1 _ [x] 1 rfl HO1.out.2.2 (by simp only [List.length_cons, List.length_nil]; omega) (by simp only [List.length_cons, List.length_nil]; omega) HO1.out.2.1.size ?_; intro A3 k3 w3 hown3 hgrow3 _; have hbel3 := HO1.out.1.belowGrown HO1.out.2.1 hgrow3 (Nat.le_refl _) HO1.out.2.1.size; have HX3 := Lib.hid (And.intro hown3 hbel3); clear hown3 hgrow3 hbel3)
        have hl1 : m.length + [x].length = (m ++ [x]).length := (List.length_append).symm
        have hx3 := HX3.out.1
        rw [hl1] at hx3
        go_roundw
        case rel => exact ⟨k + 1, m ++ [x], A3, k3, by omega, by go_num, by unfold dropOf; rw [HN.out]; exact congrArg (· ++ [x]) HM.out, by first | rfl | (rw [← hl1]; rfl), hx3, HX3.out.2⟩
        case measure => simp [intOf]; omega
      · have hst : (x.name.toList != s.toList) = false := by unfold bne; rw [he]; rfl
        have HN := Lib.hid (HY.out.2 hst)
        go_wp2_with fail
        go_roundw
        case rel => exact ⟨k + 1, m, A', c', by omega, by go_num, by unfold dropOf; rw [HN.out]; exact HM.out, rfl, HB.out.1, HB.out.2⟩
        case measure => simp [intOf]; omega
    · obtain rfl : k = l.length := by omega
      have dk : decide ((l.length : Int) < (l.length : Int)) = false := by simp
      have hmm : m = dropOf s l := by have := HM.out; rwa [List.take_length] at this
      subst hmm
      go_wp2_with fail
      go_ret
      exact ⟨A', c', rfl, HB.out.1, HB.out.2⟩
end Go.Proofs.Ytfaklhdafpbkmaa
