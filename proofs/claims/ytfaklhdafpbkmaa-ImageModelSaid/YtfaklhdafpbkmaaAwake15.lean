/- bilgelaw15.awake: the document's own example comes true. -/
import Derived.Test.YtfaklhdafpbkmaaRefPutI
import Derived.Test.YtfaklhdafpbkmaaRefOrder
import Derived.Outline
namespace Go.Proofs.Ytfaklhdafpbkmaa
open Go.RowKit

abbrev iA : ByteArray := ⟨#[97]⟩
abbrev iB : ByteArray := ⟨#[98]⟩
abbrev iC : ByteArray := ⟨#[99]⟩
abbrev li1 : List Im := [⟨iB, 5, 3⟩]
abbrev li2 : List Im := [⟨iA, 9, 3⟩, ⟨iB, 5, 3⟩]
theorem blt_AB : blt iA iB = true := by rw [blt_eq]; decide
theorem blt_BA : blt iB iA = false := by rw [blt_eq]; decide
theorem blt_AC : blt iA iC = true := by rw [blt_eq]; decide
theorem blt_BC : blt iB iC = true := by rw [blt_eq]; decide
theorem beq_BA : (iB.toList == iA.toList) = false := by rw [ByteArray.toList_eq, ByteArray.toList_eq]; decide
theorem beq_AB : (iA.toList == iB.toList) = false := by rw [ByteArray.toList_eq, ByteArray.toList_eq]; decide
theorem sorted0 : SortedN [] := fun i j _ hj => by simp at hj
theorem sorted1 : SortedN li1 := fun i j h hj => by simp at hj; omega
theorem sorted2 : SortedN li2 := fun i j h hj => by
  simp at hj
  obtain rfl : i = 0 := by omega
  obtain rfl : j = 1 := by omega
  exact blt_AB
theorem aw_put1 : putOf [] iB 5 3 = li1 := rfl
theorem aw_put2 : putOf li1 iA 9 3 = li2 := by
  have h1 : lowerI li1 iA = 0 := by unfold lowerI; simp [blt_BA]
  have h2 : isAt li1 iA = false := by unfold isAt; rw [h1]; exact beq_BA
  rw [putOf_no h2, h1]; rfl
theorem aw_atB : isAt li2 iB = true := isAt_mem sorted2 (x := ⟨iB, 5, 3⟩) (by simp)
theorem aw_atA : isAt li2 iA = true := isAt_mem sorted2 (x := ⟨iA, 9, 3⟩) (by simp)
theorem aw_findB : findOf li2 iB = ⟨iB, 5, 3⟩ := by
  have h : lowerI li2 iB = 1 := lowerI_at sorted2 (j := 1) (by decide)
  unfold findOf; rw [aw_atB, h]; rfl
theorem aw_atC : isAt li2 iC = false := by
  have h1 : lowerI li2 iC = 2 := by unfold lowerI; simp [blt_AC, blt_BC]
  unfold isAt; rw [h1]; rfl
theorem aw_dropA : dropAt li2 iA = li1 := by
  have h : lowerI li2 iA = 0 := lowerI_at sorted2 (j := 0) (by decide)
  unfold dropAt; rw [aw_atA, h]; rfl
theorem aw_dropC : dropAt li2 iC = li2 := by unfold dropAt; rw [aw_atC]; rfl
theorem aw_touch : touchM li2 [iA] 7 = [⟨iA, 9, 7⟩, ⟨iB, 5, 3⟩] := by
  have h1 : hasB [iA] iA = true := by unfold hasB; simp
  have h2 : hasB [iA] iB = false := by unfold hasB; simp only [List.any_cons, List.any_nil, beq_AB, Bool.or_false]
  unfold touchM
  simp only [List.map_cons, List.map_nil, h1, h2]
  rfl
theorem aw_order : orderOf li2 [] = li2 := by
  refine (order_eq ⟨?_, ?_⟩).symm
  · have : li2.filter (isFree []) = li2 := rfl
    rw [this]
  · refine List.Pairwise.cons ?_ (List.Pairwise.cons (by simp) List.Pairwise.nil)
    intro y hy
    simp at hy
    subst hy
    rfl
theorem aw_total : totalOf li2 = 14 := rfl
theorem wf2 : ∀ x ∈ li2, I64 x.size := by
  intro x hx; simp at hx; rcases hx with rfl | rfl <;> exact ⟨by decide, by decide⟩
theorem put_v {l m : List Im} {s : ByteArray} {size r : Int} (hm : putOf l s size r = m) (A : Option Addr) (c : Nat) (w : World) (hr : Rds w encI A l) (hl : l.length ≤ 100000) (hs : SortedN l) :
    Calls Try.prog 38 #[.slice A l.length c, .string s, .int .i64 size, .int .i64 r] w (GivesIms m w) := by subst hm; exact put_any l s size r A c w hr hl hs
theorem find_v {l : List Im} {s : ByteArray} {x : Im} {b : Bool} (hx : findOf l s = x) (hb : isAt l s = b) (A : Option Addr) (c : Nat) (w : World) (hr : Rds w encI A l) (hl : l.length ≤ 100000) (hs : SortedN l) :
    Calls Try.prog 37 #[.slice A l.length c, .string s] w fun e w' => e = .returned (.tuple #[.agg x.cells, .bool b]) ∧ Below w.heap.size w w' := by subst hx; subst hb; exact find_any l s A c w hr hl hs
theorem drop_v {l m : List Im} {s : ByteArray} {b : Bool} (hm : dropAt l s = m) (hb : isAt l s = b) (A : Option Addr) (c : Nat) (w : World) (hr : Rds w encI A l) (hl : l.length ≤ 100000) (hs : SortedN l) :
    Calls Try.prog 40 #[.slice A l.length c, .string s] w fun e w' => ∃ A' c', e = .returned (.tuple #[.slice A' m.length c', .bool b]) ∧ Own w' w.heap.size 46 encI (.slice A' m.length c') m ∧ Below w.heap.size w w' := by subst hm; subst hb; exact drop_any l s A c w hr hl hs
theorem touch_v {l m : List Im} {us : List ByteArray} {r : Int} (hm : touchM l us r = m) (A B : Option Addr) (c d : Nat) (w : World) (hr : Rds w encI A l) (hu : Rds w encS B us) (hl : l.length ≤ 100000) (hq : us.length ≤ 9223372036854775807) (hs : SortedN l) :
    Calls Try.prog 39 #[.slice A l.length c, .slice B us.length d, .int .i64 r] w (GivesIms m w) := by subst hm; exact touch_any l us r A B c d w hr hu hl hq hs
theorem orderV_any {l S : List Im} {us : List ByteArray} (hS : orderOf l us = S) (A B : Option Addr) (c d : Nat) (w : World) (hr : Rds w encI A l) (hs : Rds w encS B us) (hl : l.length ≤ 100000) (hm : us.length ≤ 9223372036854775807) :
    Calls Try.prog 44 #[.slice A l.length c, .slice B us.length d] w (GivesIms S w) :=
  (imgOrder_any l us A B c d w hr hs hl hm).mono fun _ _ ⟨m, hm, h⟩ => by rw [← hS, ← order_eq hm]; exact h
theorem total_v {l : List Im} {n : Int} (hn : totalOf l = n) (A : Option Addr) (c : Nat) (w : World) (hr : Rds w encI A l) (hl : l.length ≤ 100000) (hwf : ∀ x ∈ l, I64 x.size) :
    Calls Try.prog 42 #[.slice A l.length c] w fun e w' => e = .returned (.int .i64 n) ∧ Below w.heap.size w w' := by subst hn; exact total_any l A c w hr hl hwf

set_option maxRecDepth 100000 in
set_option maxHeartbeats 8000000 in
theorem awake15_any (w : World) :
    Calls Try.prog 35 #[] w fun e w' => e = .returned (.bool true) ∧ Below w.heap.size w w' := by
  go_enter Try.func35, Try.ntmps35
  go_wp2_with fail
  refine (put_v aw_put1 none 0 _ (Rds.nil _ _ _) (by decide) sorted0).mono ?_; rintro e w1 ⟨A0, c0, rfl, hO0, hb1⟩
  have HP0 := Lib.hid (And.intro (hO0) (hb1))
  clear hO0 hb1
  go_wp2_with fail
  refine (put_v aw_put2 A0 c0 _ HP0.out.1.toRds (by decide) sorted1).mono ?_; rintro e w2 ⟨A1, c1, rfl, hO, hb2⟩
  have HP1 := Lib.hid (And.intro (hO.mono HP0.out.2.size) (HP0.out.2.trans (hb2.mono HP0.out.2.size)))
  clear HP0 hb2 hO
  go_wp2_with fail
  refine (find_v aw_findB aw_atB A1 c1 _ HP1.out.1.toRds (by decide) sorted2).mono ?_; rintro e w3 ⟨rfl, hb3⟩
  have HP2 := Lib.hid (And.intro (HP1.out.1.below hb3 (Nat.le_refl _)) (HP1.out.2.trans (hb3.mono HP1.out.2.size)))
  clear HP1 hb3
  have hbx : Below w3.heap.size w3 (w3.alloc (.cells (⟨iB, 5, 3⟩ : Im).cells 46)) := (Below.refl _ _).alloc (Nat.le_refl _) _
  have HP3 := Lib.hid (And.intro (Blk.new w3 46 (⟨iB, 5, 3⟩ : Im).cells) (And.intro (HP2.out.1.below hbx (Nat.le_refl _)) (HP2.out.2.trans (hbx.mono HP2.out.2.size))))
  clear HP2 hbx
  go_wp2_with fail
  refine (orderV_any aw_order A1 none c1 0 _ HP3.out.2.1.toRds (Rds.nil _ _ _) (by decide) (by decide)).mono ?_; rintro e w4 ⟨A2, c2, rfl, hO, hb4⟩
  have HP4 := Lib.hid (And.intro (hO.mono HP3.out.2.2.size) (And.intro (HP3.out.1.belowAll hb4) (And.intro (HP3.out.2.1.below hb4 (Nat.le_refl _)) (HP3.out.2.2.trans (hb4.mono HP3.out.2.2.size)))))
  clear HP3 hb4 hO
  go_wp2_with fail
  refine (drop_v aw_dropA aw_atA A1 c1 _ HP4.out.2.2.1.toRds (by decide) sorted2).mono ?_; rintro e w5 ⟨A3, c3, rfl, hO, hb5⟩
  have HP5 := Lib.hid (And.intro (HP4.out.1.below hb5 (Nat.le_refl _)) (And.intro (HP4.out.2.1.belowAll hb5) (And.intro (HP4.out.2.2.1.below hb5 (Nat.le_refl _)) (HP4.out.2.2.2.trans (hb5.mono HP4.out.2.2.2.size)))))
  clear HP4 hb5 hO
  go_wp2_with fail
  refine (drop_v aw_dropC aw_atC A1 c1 _ HP5.out.2.2.1.toRds (by decide) sorted2).mono ?_; rintro e w6 ⟨A4, c4, rfl, hO, hb6⟩
  have HP6 := Lib.hid (And.intro (HP5.out.1.below hb6 (Nat.le_refl _)) (And.intro (HP5.out.2.1.belowAll hb6) (And.intro (HP5.out.2.2.1.below hb6 (Nat.le_refl _)) (HP5.out.2.2.2.trans (hb6.mono HP5.out.2.2.2.size)))))
  clear HP5 hb6 hO
  have hbx : Below w6.heap.size w6 (w6.alloc (.cells #[.string iA] 9)) := (Below.refl _ _).alloc (Nat.le_refl _) _
  have hrx := Rds.made w6 encS [iA] 9 #[.string iA] (0, 0) rfl
  have HP7 := Lib.hid (And.intro (hrx) (And.intro (HP6.out.1.below hbx (Nat.le_refl _)) (And.intro (HP6.out.2.1.belowAll hbx) (And.intro (HP6.out.2.2.1.below hbx (Nat.le_refl _)) (HP6.out.2.2.2.trans (hbx.mono HP6.out.2.2.2.size))))))
  clear HP6 hbx hrx
  go_wp2_with fail
  refine (touch_v aw_touch A1 _ c1 1 _ HP7.out.2.2.2.1.toRds HP7.out.1 (by decide) (by decide) sorted2).mono ?_; rintro e w7 ⟨A5, c5, rfl, hO, hb7⟩
  have HP8 := Lib.hid (And.intro (hO.mono HP7.out.2.2.2.2.size) (And.intro (HP7.out.2.1.below hb7 (Nat.le_refl _)) (And.intro (HP7.out.2.2.1.belowAll hb7) (And.intro (HP7.out.2.2.2.1.below hb7 (Nat.le_refl _)) (HP7.out.2.2.2.2.trans (hb7.mono HP7.out.2.2.2.2.size))))))
  clear HP7 hb7 hO
  obtain ⟨g1, hA1, _⟩ := own_some HP8.out.2.2.2.1 (by simp)
  obtain ⟨g2, hA2, _⟩ := own_some HP8.out.2.1 (by simp)
  obtain ⟨g5, hA5, _⟩ := own_some HP8.out.1 (by simp)
  subst hA1
  subst hA2
  subst hA5
  have z1 := own_cells HP8.out.2.2.2.1 (i := 0) (by decide) 0 (.string iA) rfl
  have z2 := own_cells HP8.out.2.1 (i := 0) (by decide) 0 (.string iA) rfl
  have z3 := own_cells HP8.out.1 (i := 0) (by decide) 2 (.int .i64 7) rfl
  have z4 := own_cells HP8.out.1 (i := 1) (by decide) 2 (.int .i64 3) rfl
  simp only [Nat.zero_mul, Nat.zero_add, Nat.one_mul, Nat.reduceAdd] at z1 z2 z3 z4
  have cx := HP8.out.2.2.1.cell
  have HTOT := Lib.hid (total_v aw_total (some ⟨g1, 0, none⟩) c1 _ HP8.out.2.2.2.1.toRds (by decide) wf2)
  have HBB := Lib.hid HP8.out.2.2.2.2
  clear HP8
  go_wp2_with fail
  refine HTOT.out.mono ?_; rintro e wl ⟨rfl, hbl⟩
  have HBF := Lib.hid (HBB.out.trans (hbl.mono HBB.out.size))
  clear hbl
  go_wp2_with fail
  go_ret
  exact ⟨ret_bool (by simp), HBF.out⟩
end Go.Proofs.Ytfaklhdafpbkmaa
