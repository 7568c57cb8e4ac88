/- slices.SortFunc at images; image.Order. -/
import Derived.Test.YtfaklhdafpbkmaaAhead
import Derived.Test.YtfaklhdafpbkmaaSortC
namespace Go.Proofs.Ytfaklhdafpbkmaa
open Go.RowKit

def SortsI (l : List Im) (A : Option Addr) (c : Nat) (base : Nat) (w : World) (e : Ending) (w' : World) : Prop :=
  e = .returned (.tuple #[]) ∧ ∃ l' : List Im, l'.Perm l ∧ (l'.Pairwise fun x y => imlt y x = false) ∧ Own w' base 46 encI (.slice A l'.length c) l' ∧ w.grownBy w' (Value.slice A l.length c).ownBlock
theorem sortI_any (l : List Im) (A : Option Addr) (c : Nat) (w : World) (base : Nat) (hown : Own w base 46 encI (.slice A l.length c) l) (hn : l.length ≤ 100000) :
    Calls Try.prog 62 #[.slice A l.length c, .func (.func 63) #[] #[]] w (SortsI l A c base w) := by
  by_cases hl : l = []
  · subst hl
    exact (AnyF.slices_SortFunc_none { Try.sortI with } A c _ w).mono fun e w' ⟨he, hw⟩ => by
      subst hw
      exact ⟨he, [], List.Perm.refl _, List.Pairwise.nil, hown, World.grownBy.refl _ _⟩
  · obtain ⟨g, cap, cur, hv, hb, hg, hnc, hm, hcs, ht⟩ := own_open hown hl
    injection hv with e1 _ e3
    subst e1
    subst e3
    have eg : ∀ args w, (callFunc 63 args).run Try.prog w = .ok (.enter 63 args) w := enters_of Try.func63 (by kernel_rfl) rfl
    have hcon := AnyQ.slices_SortFunc Try.sortI 3 Try.isAgg46 Try.sizeOf46 encI.enc encI.len (fun x v hv => encI.one x v hv) cfI swoI 63 #[] g 0 c l.toArray w eg (cmpLaysI g 0 l.toArray.size w) (holds_of hg ht) hg.lt (by simp; omega)
    have hs : l.toArray.size = l.length := List.size_toArray
    change Calls Try.prog 62 _ _ _ at hcon
    rw [hs] at hcon
    refine hcon.mono fun e w' ⟨he, d', n, os, hp, hsd, hw⟩ => ?_
    subst hw
    rw [← hs] at hp
    obtain ⟨hd, hperm⟩ := perm_of hp
    obtain ⟨ho, hgr⟩ := sortWorld_own (E := encI) (n := n) (os := os) hb hg hd hnc hm hcs
    refine ⟨he, d'.toList, hperm, ?_, ho, hgr⟩
    rw [← hd] at hsd
    have := sorted_of hsd
    exact this.imp fun {x y} h => by rw [← cfI_lt]; exact h

def isFree (used : List ByteArray) (x : Im) : Bool := !hasB used x.name
def SortedFree (l : List Im) (used : List ByteArray) (S : List Im) : Prop := S.Perm (l.filter (isFree used)) ∧ S.Pairwise fun x y => imlt y x = false
def GivesOrder (l : List Im) (used : List ByteArray) (w : World) (e : Ending) (w' : World) : Prop := ∃ S, SortedFree l used S ∧ GivesIms S w e w'

set_option maxHeartbeats 2000000 in
theorem imgOrder_any (l : List Im) (pods : List ByteArray) (A B : Option Addr) (c d : Nat) (w : World) (hr : Rds w encI A l) (hs : Rds w encS B pods) (hl : l.length ≤ 100000) (hm : pods.length ≤ 9223372036854775807) :
    Calls Try.prog 44 #[.slice A l.length c, .slice B pods.length d] w (GivesOrder l pods w) := by
  have HR := Lib.hid hr
  have HS := Lib.hid hs
  clear hr hs
  go_enter Try.func44, Try.ntmps44
  go_wp2_with fail
  go_loopw [5, 10] (fun b i wr => ∃ (k : Nat) (m : List Im) (A' : Option Addr) (c' : Nat), k ≤ l.length ∧ i = .int .i64 k ∧ m = (l.take k).filter (isFree pods) ∧ b = .slice A' m.length c' ∧ Own wr w.heap.size 46 encI (.slice A' m.length c') m ∧ Below w.heap.size w wr) (fun _ i _ => l.length - (intOf i).toNat)
  case atStart => exact ⟨0, [], none, 0, by omega, rfl, rfl, rfl, Own.nil_ _ _ _ _, Below.refl _ _⟩
  case round =>
    obtain ⟨k, m, A', c', hk, rfl, hm', rfl, hO, hB⟩ := hrel
    have HM := Lib.hid hm'
    have HB := Lib.hid (And.intro hO hB)
    have hml : m.length ≤ 100000 := by rw [hm']; have := List.length_filter_le (isFree pods) (l.take k); rw [List.length_take] at this; omega
    clear hm' hO hB
    by_cases hlt : k < l.length
    · obtain ⟨b, off, rfl, hb, hc0, hc1, hc2⟩ := (HR.out.below HB.out.2).im hlt
      have dk : decide ((k : Int) < (l.length : Int)) = true := decide_eq_true (by omega)
      have dk2 : (k : Int) < (l.length : Int) := by omega
      have hyes := filter1_yes (isFree pods) l k hlt
      have hno := filter1_no (isFree pods) l k hlt
      have hdef : isFree pods l[k] = !hasB pods l[k].name := rfl
      generalize l[k] = x at *
      have HY := Lib.hid (And.intro hyes (And.intro hno hdef))
      clear hyes hno hdef
      have HW : Hid (Own (wr.alloc (.cells x.cells 46)) w.heap.size 46 encI (.slice A' m.length c') m ∧ Below w.heap.size w (wr.alloc (.cells x.cells 46))) := ⟨HB.out.1.alloc _, HB.out.2.alloc HB.out.2.size _⟩
      go_wp2_with fail
      refine (contains_any pods x.name B d _ (HS.out.below HW.out.2) hm).mono ?_; rintro e w1 ⟨rfl, rfl⟩
      cases hhas : hasB pods x.name
      · have HN := Lib.hid (HY.out.1 (by rw [HY.out.2.2, hhas]; rfl))
        have hz1 : (wr.alloc (.cells x.cells 46)).heap.size = wr.heap.size + 1 := by simp
        have hrm := Rds.made (wr.alloc (.cells x.cells 46)) encI [x] 46 x.cells (0, 0) rfl
        rw [hz1] at hrm
        have HO1 : Hid (Own ((wr.alloc (.cells x.cells 46)).alloc (.cells x.cells 46)) w.heap.size 46 encI (.slice A' m.length c') m ∧ Below w.heap.size w ((wr.alloc (.cells x.cells 46)).alloc (.cells x.cells 46)) ∧ Rds ((wr.alloc (.cells x.cells 46)).alloc (.cells x.cells 46)) encI (some ⟨wr.heap.size + 1, 0, none⟩) [x]) := ⟨HW.out.1.alloc _, HW.out.2.alloc HW.out.2.size _, hrm⟩
        clear hhas hz1 hrm
        go_wp2_with (at_builtin; refine wl_app elemI encI rfl (.tmp 19) (.tmp 21) rfl w.heap.size _ m rfl HO1.out.1 _ [x] 1 rfl HO1.out.2.2 (by simp; omega) (by simp; omega) HO1.out.2.1.size ?_; intro A3 k3 w3 hown3 hgrow3 _; have hbel3 := HO1.out.1.belowGrown HO1.out.2.1 hgrow3 (Nat.le_refl _) HO1.out.2.1.size; have HX3 := Lib.hid (And.intro hown3 hbel3); clear hown3 hgrow3 hbel3)
        have hl1 : m.length + [x].length = (m ++ [x]).length := (List.length_append).symm
        have hx3 := HX3.out.1
        rw [hl1] at hx3
        go_roundw
        case rel => exact ⟨k + 1, m ++ [x], A3, k3, by omega, by go_num, by rw [HN.out]; exact congrArg (· ++ [x]) HM.out, by first | rfl | (rw [← hl1]; rfl), hx3, HX3.out.2⟩
        case measure => simp [intOf]; omega
      · have HN := Lib.hid (HY.out.2.1 (by rw [HY.out.2.2, hhas]; rfl))
        clear hhas
        go_wp2_with fail
        go_roundw
        case rel => exact ⟨k + 1, m, A', c', by omega, by go_num, by rw [HN.out]; exact HM.out, rfl, HW.out.1, HW.out.2⟩
        case measure => simp [intOf]; omega
    · obtain rfl : k = l.length := by omega
      have dk : decide ((l.length : Int) < (l.length : Int)) = false := by simp
      have hmm : m = l.filter (isFree pods) := by have := HM.out; rwa [List.take_length] at this
      have HMM := Lib.hid hmm
      clear hmm
      go_wp2_with fail
      refine (sortI_any m A' c' wr w.heap.size HB.out.1 hml).mono ?_; rintro e w2 ⟨rfl, S, hperm, hsorted, hown2, hgrow2⟩
      have hbel2 := HB.out.1.belowGrown HB.out.2 hgrow2 (Nat.le_refl _) HB.out.2.size
      have hSl : S.length = m.length := hperm.length_eq
      have hSl2 : S.length ≤ 100000 := by omega
      have HSR : Hid (SortedFree l pods S) := ⟨by rw [← HMM.out]; exact hperm, hsorted⟩
      have HB2 := Lib.hid (And.intro hown2 hbel2)
      clear hperm hsorted hown2 hgrow2 hbel2 HB HM HMM dk
      rw [hSl] at HB2
      go_wp2_with fail
      go_ret
      exact ⟨S, HSR.out, A', c', by rw [hSl]; rfl, by rw [hSl]; exact HB2.out.1, HB2.out.2⟩
end Go.Proofs.Ytfaklhdafpbkmaa
