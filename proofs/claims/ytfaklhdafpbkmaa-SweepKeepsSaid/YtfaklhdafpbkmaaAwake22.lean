/- bilgelaw22.awake: what the document fixes is so. -/
import Derived.Test.YtfaklhdafpbkmaaRefCollect
import Derived.Test.YtfaklhdafpbkmaaExtra
namespace Go.Proofs.Ytfaklhdafpbkmaa
open Go.RowKit

theorem hasB_data (l : List ByteArray) (s : ByteArray) : hasB l s = l.any fun t => t.data.toList == s.data.toList := by
  unfold hasB; simp only [ByteArray.toList_eq]
abbrev bA : ByteArray := ⟨#[97]⟩
abbrev bB : ByteArray := ⟨#[98]⟩
abbrev bC : ByteArray := ⟨#[99]⟩
abbrev bD : ByteArray := ⟨#[100]⟩
abbrev bI : ByteArray := ⟨#[105]⟩
abbrev bJ : ByteArray := ⟨#[106]⟩
abbrev bK : ByteArray := ⟨#[107]⟩
def cl0 : List Cn := [⟨bA, 3, 0, 1⟩, ⟨bB, 4, 0, 5⟩, ⟨bC, 6, 0, 2⟩, ⟨bD, 3, 0, 2⟩]
def im0 : List Im := [⟨bI, 5, 1⟩, ⟨bJ, 5, 2⟩, ⟨bK, 5, 3⟩]
theorem ids_nodup : (cl0.map Cn.id).Nodup := by
  unfold cl0 List.Nodup
  simp only [List.map_cons, List.map_nil, List.pairwise_cons, List.mem_cons, List.not_mem_nil, or_false, forall_eq_or_imp, forall_eq, List.Pairwise.nil, and_true]
  refine ⟨⟨?_, ?_, ?_⟩, ⟨?_, ?_⟩, ?_, ?_⟩ <;> first | (intro h; exact absurd (congrArg (fun b : ByteArray => b.data.toList) h) (by decide)) | simp
theorem names_nodup : (im0.map Im.name).Nodup := by
  unfold im0 List.Nodup
  simp only [List.map_cons, List.map_nil, List.pairwise_cons, List.mem_cons, List.not_mem_nil, or_false, forall_eq_or_imp, forall_eq, List.Pairwise.nil, and_true]
  refine ⟨⟨?_, ?_⟩, ?_, ?_⟩ <;> first | (intro h; exact absurd (congrArg (fun b : ByteArray => b.data.toList) h) (by decide)) | simp
theorem isDead_data (p : List ByteArray) : isDead p = fun x => !(x.state == 3) && !(p.any fun t => t.data.toList == x.id.data.toList) := by
  funext x; unfold isDead; rw [hasB_data]
theorem isLost_data (p : List ByteArray) : isLost p = fun x => (x.state == 3) && !(p.any fun t => t.data.toList == x.id.data.toList) := by
  funext x; unfold isLost; rw [hasB_data]
theorem isFree_data (p : List ByteArray) : isFree p = fun x => !(p.any fun t => t.data.toList == x.name.data.toList) := by
  funext x; unfold isFree; rw [hasB_data]
theorem aw_lost : idsOf (isLost [bD]) cl0 = [bA] := by unfold idsOf; rw [isLost_data]; rfl
theorem aw_dead (p : List ByteArray) (hf : cl0.filter (isDead p) = [⟨bB, 4, 0, 5⟩, ⟨bC, 6, 0, 2⟩]) {m : List ByteArray} (h : SortedDead cl0 p m) : m = [bC, bB] := by
  obtain ⟨S, hp, hs, rfl⟩ := h
  have e1 := sorted_eq ids_nodup hp hs
  have e2 : [⟨bC, 6, 0, 2⟩, ⟨bB, 4, 0, 5⟩] = (cl0.filter (isDead p)).mergeSort deadLe := sorted_eq ids_nodup (by rw [hf]; exact List.Perm.swap _ _ _) (by simp only [List.pairwise_cons, List.mem_cons, List.not_mem_nil, or_false, forall_eq, List.Pairwise.nil, and_true]; exact ⟨rfl, fun _ h => h.elim⟩)
  rw [e1, ← e2]; rfl
theorem aw_dead1 {m : List ByteArray} (h : SortedDead cl0 [bD] m) : m = [bC, bB] := aw_dead _ (by rw [isDead_data]; rfl) h
theorem aw_dead2 {m : List ByteArray} (h : SortedDead cl0 [] m) : m = [bC, bB] := aw_dead _ (by rw [isDead_data]; rfl) h
theorem aw_order1 : orderOf im0 [] = im0 := by
  unfold orderOf
  rw [show im0.filter (isFree []) = im0 by rw [isFree_data]; rfl]
  exact (sortIm_eq (List.Perm.refl _) (by unfold im0; simp only [List.pairwise_cons, List.mem_cons, List.not_mem_nil, or_false, forall_eq_or_imp, forall_eq, List.Pairwise.nil, and_true]; exact ⟨⟨rfl, rfl⟩, rfl, fun _ h => h.elim⟩)).symm
theorem aw_order2 : orderOf im0 [bI] = [⟨bJ, 5, 2⟩, ⟨bK, 5, 3⟩] := by
  unfold orderOf
  rw [show im0.filter (isFree [bI]) = [⟨bJ, 5, 2⟩, ⟨bK, 5, 3⟩] by rw [isFree_data]; rfl]
  exact (sortIm_eq (List.Perm.refl _) (by simp only [List.pairwise_cons, List.mem_cons, List.not_mem_nil, or_false, forall_eq, List.Pairwise.nil, and_true]; exact ⟨rfl, fun _ h => h.elim⟩)).symm
theorem aw_stop1 {k : Nat} (h : Stops (orderOf im0 []) [] 6 k) : k = 2 := by
  rw [aw_order1] at h
  exact h.unique ⟨by decide, fun i hi => by
    obtain rfl | rfl : i = 0 ∨ i = 1 := by omega
    · decide
    · decide, Or.inr (by decide)⟩
theorem aw_stop2 {k : Nat} (h : Stops (orderOf im0 [bI]) [false] 6 k) : k = 2 := by
  rw [aw_order2] at h
  exact h.unique ⟨by decide, fun i hi => by
    obtain rfl | rfl : i = 0 ∨ i = 1 := by omega
    · decide
    · decide, Or.inl rfl⟩
theorem aw_col1 : colG (orderOf im0 []) [] 2 = ([bI, bJ], 10) := by rw [aw_order1]; rfl
theorem aw_col2 : colG (orderOf im0 [bI]) [false] 2 = ([bK], 5) := by rw [aw_order2]; rfl

theorem below_from' {w w0 w' : World} (h0 : Below w.heap.size w w0) (hb : Below w0.heap.size w0 w') : Below w.heap.size w w' := h0.trans (hb.mono h0.size)
set_option maxRecDepth 100000 in
set_option maxHeartbeats 8000000 in
theorem awake22_any (w : World) :
    Calls Try.prog 17 #[] w fun e w' => e = .returned (.bool true) ∧ Below w.heap.size w w' := by
  go_enter Try.func17, Try.ntmps17
  have b1 : Below w.heap.size w (w.alloc (.cells (encC.all cl0).toArray 35)) := (Below.refl _ _).alloc (Nat.le_refl _) _
  have r1 : Rds (w.alloc (.cells (encC.all cl0).toArray 35)) encC (some ⟨w.heap.size, 0, none⟩) cl0 := Rds.made w encC cl0 _ _ (0, 0) rfl
  have b2 := b1.alloc (Nat.le_of_lt (by simp : w.heap.size < (w.alloc (.cells (encC.all cl0).toArray 35)).heap.size)) (.cells #[.string bD] 9)
  have r2 := r1.alloc (.cells #[.string bD] 9)
  have r3 : Rds ((w.alloc (.cells (encC.all cl0).toArray 35)).alloc (.cells #[.string bD] 9)) encS (some ⟨w.heap.size + 1, 0, none⟩) [bD] := by
    have := Rds.made (w.alloc (.cells (encC.all cl0).toArray 35)) encS [bD] 9 #[.string bD] (0, 0) rfl
    rwa [show (w.alloc (.cells (encC.all cl0).toArray 35)).heap.size = w.heap.size + 1 by simp] at this
  have HP0 := Lib.hid (And.intro r2 (And.intro r3 b2))
  clear b1 r1 b2 r2 r3
  go_wp2_with fail
  have hc := lost_any cl0 [bD] _ _ 4 1 _ HP0.out.1 HP0.out.2.1 (by decide) (by decide)
  rw [aw_lost] at hc
  refine hc.mono ?_; rintro e w1 ⟨A1, c1, rfl, hO1, hb1⟩
  clear hc
  have HP1 := Lib.hid (And.intro (HP0.out.1.below hb1) (And.intro (hO1.mono HP0.out.2.2.size) (HP0.out.2.2.trans (hb1.mono HP0.out.2.2.size))))
  clear hb1 hO1 HP0
  have r3 := Rds.made w1 encS [bD] 9 #[.string bD] (0, 0) rfl
  have HA1 := Lib.hid (And.intro (HP1.out.1.alloc (.cells #[.string bD] 9)) (And.intro r3 ((Below.refl w1.heap.size w1).alloc (Nat.le_refl _) (.cells #[.string bD] 9))))
  clear r3
  go_wp2_with fail
  refine (dead_any cl0 [bD] _ _ 4 1 _ HA1.out.1 HA1.out.2.1 (by decide) (by decide)).mono ?_; rintro e w2 ⟨m2, hm2, A2, c2, rfl, hO2, hb2'⟩
  obtain rfl := aw_dead1 hm2
  have hb2 := below_from' HA1.out.2.2 hb2'
  have HP2 := Lib.hid (And.intro (HP1.out.1.below hb2) (And.intro (HP1.out.2.1.below hb2 (Nat.le_refl _)) (And.intro (hO2.mono (Nat.le_trans HP1.out.2.2.size HA1.out.2.2.size)) (HP1.out.2.2.trans (hb2.mono HP1.out.2.2.size)))))
  clear hb2 hb2' hO2 hm2 HP1 HA1
  go_wp2_with fail
  refine (extra_any cl0 [] 1 _ none 4 0 _ HP2.out.1 (Rds.nil _ _ _) (by decide) (by decide) (by unfold I64; omega)).mono ?_; rintro e w3 ⟨m3, hm3, A3, c3, rfl, hO3, hb3⟩
  obtain rfl := aw_dead2 hm3
  rw [show ([bC, bB].take (goes [bC, bB].length 1)) = [bC] from rfl] at hO3 ⊢
  have HP3 := Lib.hid (And.intro (HP2.out.2.1.below hb3 (Nat.le_refl _)) (And.intro (HP2.out.2.2.1.below hb3 (Nat.le_refl _)) (And.intro (hO3.mono HP2.out.2.2.2.size) (HP2.out.2.2.2.trans (hb3.mono HP2.out.2.2.2.size)))))
  clear hb3 hO3 hm3 HP2
  have HI3 := Lib.hid (And.intro (Rds.made w3 encI im0 46 (encI.all im0).toArray (0, 0) rfl) ((Below.refl w3.heap.size w3).alloc (Nat.le_refl _) (.cells (encI.all im0).toArray 46)))
  have hwf : ∀ x ∈ im0, I64 x.size := by unfold im0 I64; simp
  have HWF := Lib.hid hwf
  clear hwf
  go_wp2_with fail
  refine (collect_any im0 [] 6 [] _ none none 3 0 0 _ HI3.out.1 (Rds.nil _ _ _) (Rds.nil _ _ _) (by decide) (by decide) (by decide) HWF.out (by unfold I64; omega)).mono ?_; rintro e w4 ⟨k4, A4, c4, hst4, rfl, hO4, hb4'⟩
  obtain rfl := aw_stop1 hst4
  rw [aw_col1] at hO4 ⊢
  have hb4 := below_from' HI3.out.2 hb4'
  have HP4 := Lib.hid (And.intro (HP3.out.1.below hb4 (Nat.le_refl _)) (And.intro (HP3.out.2.1.below hb4 (Nat.le_refl _)) (And.intro (HP3.out.2.2.1.below hb4 (Nat.le_refl _)) (And.intro (hO4.mono (Nat.le_trans HP3.out.2.2.2.size HI3.out.2.size)) (And.intro (HI3.out.1.below hb4') (HP3.out.2.2.2.trans (hb4.mono HP3.out.2.2.2.size)))))))
  clear hb4 hb4' hO4 hst4 HP3 HI3
  go_wp2_with fail
  have hz5 : (w4.alloc (.cells #[.string bI] 9)).heap.size = w4.heap.size + 1 := by simp
  have hr5 := Rds.made (w4.alloc (.cells #[.string bI] 9)) encBo [false] 4 #[.bool false] (0, 0) rfl
  rw [hz5] at hr5
  have HI4 := Lib.hid (And.intro ((HP4.out.2.2.2.2.1.alloc (.cells #[.string bI] 9)).alloc (.cells #[.bool false] 4)) (And.intro ((Rds.made w4 encS [bI] 9 #[.string bI] (0, 0) rfl).alloc (.cells #[.bool false] 4)) (And.intro hr5 (((Below.refl w4.heap.size w4).alloc (Nat.le_refl _) (.cells #[.string bI] 9)).alloc (by simp) (.cells #[.bool false] 4)))))
  clear hz5 hr5
  refine (collect_any im0 [bI] 6 [false] _ _ _ 3 1 1 _ HI4.out.1 HI4.out.2.1 HI4.out.2.2.1 (by decide) (by decide) (by decide) HWF.out (by unfold I64; omega)).mono ?_; rintro e w5 ⟨k5, A5, c5, hst5, rfl, hO5, hb5'⟩
  obtain rfl := aw_stop2 hst5
  rw [aw_col2]
  have hb5 := below_from' HI4.out.2.2.2 hb5'
  obtain ⟨g1, o1, rfl, _, l1⟩ := (HP4.out.1.below hb5 (Nat.le_refl _)).toRds.str (i := 0) (by decide)
  obtain ⟨g2, o2, rfl, _, l2⟩ := (HP4.out.2.1.below hb5 (Nat.le_refl _)).toRds.str (i := 0) (by decide)
  obtain ⟨g2', o2', e2, _, l3⟩ := (HP4.out.2.1.below hb5 (Nat.le_refl _)).toRds.str (i := 1) (by decide)
  injection e2 with e2
  injection e2 with e2a e2b
  subst e2a
  subst e2b
  obtain ⟨g3, o3, rfl, _, l4⟩ := (HP4.out.2.2.1.below hb5 (Nat.le_refl _)).toRds.str (i := 0) (by decide)
  obtain ⟨g4, o4, rfl, _, l5⟩ := (HP4.out.2.2.2.1.below hb5 (Nat.le_refl _)).toRds.str (i := 0) (by decide)
  obtain ⟨g4', o4', e4, _, l6⟩ := (HP4.out.2.2.2.1.below hb5 (Nat.le_refl _)).toRds.str (i := 1) (by decide)
  injection e4 with e4
  injection e4 with e4a e4b
  subst e4a
  subst e4b
  have HBF := Lib.hid (HP4.out.2.2.2.2.2.trans (hb5.mono HP4.out.2.2.2.2.2.size))
  simp only [Nat.add_zero, List.getElem_cons_zero, List.getElem_cons_succ] at l1 l2 l3 l4 l5 l6
  clear hb5 hb5' hO5 hst5 HP4 HI4
  go_wp2_with fail
  go_ret
  exact ⟨ret_bool (by simp), HBF.out⟩
end Go.Proofs.Ytfaklhdafpbkmaa
