/- image.at, Put, Drop, Find, Touch, Total. -/
import Derived.Test.YtfaklhdafpbkmaaDelete
import Derived.Test.YtfaklhdafpbkmaaImgAt
import Derived.Test.YtfaklhdafpbkmaaDropI
import Derived.Test.YtfaklhdafpbkmaaSat
namespace Go.Proofs.Ytfaklhdafpbkmaa
open Go.RowKit

section
variable {α : Type} {size : Nat} {E : Enc α size} {w : World} {base : Nat} {e : TypeId} {l : List α}
theorem Enc.all_set_cell (E : Enc α size) (l : List α) (i j : Nat) (hi : i < l.length) (hj : j < size) (x : α) (u : Value) (hx : E.enc x = (E.enc l[i]).set j u) : E.all (l.set i x) = (E.all l).set (i * size + j) u := by
  have h1 : (i + 1) * size ≤ l.length * size := Nat.mul_le_mul_right _ hi
  rw [Nat.add_mul, Nat.one_mul] at h1
  have hal := E.all_len l
  have hT : ((E.all l).take (i * size)).length = i * size := by rw [List.length_take]; omega
  have hsp : E.all l = (E.all l).take (i * size) ++ (E.enc l[i] ++ (E.all l).drop (i * size + size)) := by
    have := E.all_set l i l[i] hi
    rw [List.set_getElem_self, List.append_assoc] at this; exact this
  rw [E.all_set l i x hi, hx, List.append_assoc]
  conv => rhs; rw [hsp]
  rw [List.set_append_right _ _ (by rw [hT]; omega), hT, Nat.add_sub_cancel_left, List.set_append_left _ _ (by rw [E.len]; exact hj)]
theorem own_setCell {g n c : Nat} (h : Own w base e E (.slice (some ⟨g, 0, none⟩) n c) l) (hn : l.length = n) {i j : Nat} (hi : i < l.length) (hj : j < size) (x : α) (u : Value) (hx : E.enc x = (E.enc l[i]).set j u) :
    Own (w.setCell ⟨g, i * size + j, none⟩ u) base e E (.slice (some ⟨g, 0, none⟩) n c) (l.set i x) ∧ w.grownBy (w.setCell ⟨g, i * size + j, none⟩ u) (some g) := by
  subst hn
  obtain ⟨g', cap, cur, hv, hb, hg, hn, hm, hcs, ht⟩ := own_row h (by intro e; subst e; simp at hi)
  injection hv with hv hv2 hv3
  injection hv with hv
  injection hv with hv
  subst hv
  subst hv3
  have hln : (l.set i x).length = l.length := List.length_set
  refine ⟨?_, grownBy_setCell _ _ _ _⟩
  have key : Own (w.setCell ⟨g, i * size + j, none⟩ u) base e E (.slice (some ⟨g, 0, none⟩) (l.set i x).length c) (l.set i x) := ⟨E.all_len _, .inr ⟨g, c, _, rfl, hb, hg.set_ _ u, by omega, hm, by rw [Array.size_setIfInBounds]; exact hcs, ?_⟩⟩
  · rw [hln] at key; exact key
  · rw [hln, Array.toList_setIfInBounds, List.take_set, ht, E.all_set_cell l i j hi hj x u hx]
end

/-! ### at -/
theorem at_any (l : List Im) (s : ByteArray) (A : Option Addr) (c : Nat) (w : World) (hr : Rds w encI A l) (hm : l.length ≤ 1000000) (hs : SortedN l) :
    Calls Try.prog 58 #[.slice A l.length c, .string s] w fun e w' => e = .returned (.tuple #[.int .i64 (lowerI l s), .bool (isAt l s)]) ∧ Below w.heap.size w w' := by
  have HR := Lib.hid hr
  have HS := Lib.hid hs
  clear hr hs
  go_enter Try.func58, Try.ntmps58
  go_wp2_with fail
  refine (bsearch_any l s A c _ HR.out hm HS.out).mono ?_; rintro e w1 ⟨rfl, hb⟩
  have HB := Lib.hid hb
  clear hb
  go_wp2_with fail
  go_ret2
  exact ⟨rfl, HB.out⟩
theorem isAt_lt {l : List Im} {s : ByteArray} (h : isAt l s = true) : ∃ hi : lowerI l s < l.length, l[lowerI l s].name = s := by
  unfold isAt at h
  rcases Nat.lt_or_ge (lowerI l s) l.length with hlt | hge
  · rw [List.getElem?_eq_getElem hlt] at h
    exact ⟨hlt, toList_inj h⟩
  · rw [List.getElem?_eq_none hge] at h; cases h

def late (x : Im) (r : Int) : Im := ⟨x.name, x.size, r⟩
def setLast (l : List Im) (i : Nat) (r : Int) : List Im := match l[i]? with | some x => l.set i (late x r) | none => l
theorem setLast_at {l : List Im} {i : Nat} (hi : i < l.length) (r : Int) : setLast l i r = l.set i (late l[i] r) := by unfold setLast; rw [List.getElem?_eq_getElem hi]
theorem setLast_len (l : List Im) (i : Nat) (r : Int) : (setLast l i r).length = l.length := by unfold setLast; split <;> simp
def putOf (l : List Im) (s : ByteArray) (size r : Int) : List Im := if isAt l s then setLast l (lowerI l s) r else insI l (lowerI l s) ⟨s, size, r⟩
theorem putOf_yes {l : List Im} {s : ByteArray} (h : isAt l s = true) (size r : Int) : putOf l s size r = setLast l (lowerI l s) r := by unfold putOf; rw [if_pos h]
theorem putOf_no {l : List Im} {s : ByteArray} (h : isAt l s = false) (size r : Int) : putOf l s size r = insI l (lowerI l s) ⟨s, size, r⟩ := by unfold putOf; rw [h]; rfl

set_option maxHeartbeats 2000000 in
theorem put_any (l : List Im) (s : ByteArray) (size r : Int) (A : Option Addr) (c : Nat) (w : World) (hr : Rds w encI A l) (hl : l.length ≤ 100000) (hs : SortedN l) :
    Calls Try.prog 38 #[.slice A l.length c, .string s, .int .i64 size, .int .i64 r] w (GivesIms (putOf l s size r) w) := by
  have HR := Lib.hid hr
  have HS := Lib.hid hs
  clear hr hs
  go_enter Try.func38, Try.ntmps38
  go_wp2_with fail
  refine (at_any l s A c _ HR.out (by omega) HS.out).mono ?_; rintro e w1 ⟨rfl, hb1⟩
  have HP1 := Lib.hid (And.intro (HR.out.below hb1) hb1)
  clear hb1
  go_wp2_with fail
  refine (clone_any l A c _ HP1.out.1 hl).mono ?_; rintro e w2 ⟨A2, c2, rfl, hO, hb2⟩
  have HP2 := Lib.hid (And.intro (hO.mono HP1.out.2.size) (HP1.out.2.trans (hb2.mono HP1.out.2.size)))
  clear hO hb2 HP1
  cases hat : isAt l s
  · have HPO := Lib.hid (putOf_no hat size r)
    have hle := lowerI_le l s
    have HLEN := Lib.hid (show (putOf l s size r).length = l.length + 1 by rw [HPO.out]; exact insI_len l _ _ hle)
    have HAT := Lib.hid hat
    clear hat
    obtain ⟨i, hi⟩ : ∃ i, i = lowerI l s := ⟨_, rfl⟩
    rw [← hi] at hle HPO ⊢
    have HI := Lib.hid hi
    clear hi
    have HB2 := Lib.hid (Blk.new w2 46 #[.string s, .int .i64 size, .int .i64 r])
    have HO2 := Lib.hid (And.intro (HP2.out.1.alloc (.cells #[.string s, .int .i64 size, .int .i64 r] 46)) (HP2.out.2.alloc HP2.out.2.size (.cells #[.string s, .int .i64 size, .int .i64 r] 46)))
    have HNE := Lib.hid (show some w2.heap.size ≠ (Value.slice A2 l.length c2).ownBlock from fun e => by have := (HP2.out.1.block_lt _ e.symm).2; omega)
    go_wp2_with fail
    refine (insert_any (x := ⟨s, size, r⟩) HO2.out.1 HB2.out HNE.out HO2.out.2.size hl hle).mono ?_; rintro e w3 ⟨A3, c3, rfl, hO3, hg3⟩
    have HP3 := Lib.hid (And.intro hO3 (HO2.out.1.belowGrown HO2.out.2 hg3 (Nat.le_refl _) HO2.out.2.size))
    clear hO3 hg3
    go_wp2_with fail
    go_ret
    exact ⟨A3, c3, by rw [HLEN.out] <;> rfl, by rw [HLEN.out, HPO.out]; exact HP3.out.1, HP3.out.2⟩
  · obtain ⟨hlt, hname⟩ := isAt_lt hat
    have HPO := Lib.hid (putOf_yes hat size r)
    have HSL := Lib.hid (setLast_at hlt r)
    have HLEN := Lib.hid (show (putOf l s size r).length = l.length by rw [HPO.out]; exact setLast_len _ _ _)
    have hne : l ≠ [] := by intro e; subst e; simp at hlt
    clear hat hname
    obtain ⟨i, hi⟩ : ∃ i, i = lowerI l s := ⟨_, rfl⟩
    have hlt' : i < l.length := by rw [hi]; exact hlt
    have HSL2 : Hid (putOf l s size r = l.set i (late l[i] r)) := by subst hi; exact HPO.out.trans HSL.out
    clear HPO HSL
    rw [← hi]
    clear hi hlt
    obtain ⟨g, hA2, hge⟩ := own_some HP2.out.1 hne
    subst hA2
    have z2 := own_cells HP2.out.1 hlt' 2 (.int .i64 l[i].last) rfl
    have zf := own_frozen HP2.out.1 rfl hne (i * 3 + 2)
    have HN := Lib.hid (own_setCell HP2.out.1 rfl hlt' (by omega : 2 < 3) (late l[i] r) (.int .i64 r) rfl)
    have HNB := Lib.hid (HP2.out.1.belowGrown HP2.out.2 HN.out.2 (Nat.le_refl _) HP2.out.2.size)
    generalize l[i].last = z at *
    have dk : (i : Int) < (l.length : Int) := by omega
    go_wp2_with fail
    go_ret
    exact ⟨some ⟨g, 0, none⟩, c2, by rw [HLEN.out] <;> rfl, by rw [HLEN.out, HSL2.out]; exact HN.out.1, HNB.out⟩

/-! ### Drop -/
def dropAt (l : List Im) (s : ByteArray) : List Im := if isAt l s then delI l (lowerI l s) else l
set_option maxHeartbeats 2000000 in
theorem drop_any (l : List Im) (s : ByteArray) (A : Option Addr) (c : Nat) (w : World) (hr : Rds w encI A l) (hl : l.length ≤ 100000) (hs : SortedN l) :
    Calls Try.prog 40 #[.slice A l.length c, .string s] w fun e w' => ∃ A' c', e = .returned (.tuple #[.slice A' (dropAt l s).length c', .bool (isAt l s)]) ∧ Own w' w.heap.size 46 encI (.slice A' (dropAt l s).length c') (dropAt l s) ∧ Below w.heap.size w w' := by
  have HR := Lib.hid hr
  have HS := Lib.hid hs
  clear hr hs
  go_enter Try.func40, Try.ntmps40
  go_wp2_with fail
  refine (at_any l s A c _ HR.out (by omega) HS.out).mono ?_; rintro e w1 ⟨rfl, hb1⟩
  have HP1 := Lib.hid (And.intro (HR.out.below hb1) hb1)
  clear hb1
  go_wp2_with fail
  refine (clone_any l A c _ HP1.out.1 hl).mono ?_; rintro e w2 ⟨A2, c2, rfl, hO, hb2⟩
  have HP2 := Lib.hid (And.intro (hO.mono HP1.out.2.size) (HP1.out.2.trans (hb2.mono HP1.out.2.size)))
  clear hO hb2 HP1
  cases hat : isAt l s
  · have HD := Lib.hid (show dropAt l s = l by unfold dropAt; rw [hat]; rfl)
    have HAT := Lib.hid hat
    clear hat
    go_wp2_with fail
    go_ret2
    exact ⟨A2, c2, by rw [HD.out, HAT.out] <;> rfl, by rw [HD.out]; exact HP2.out.1, HP2.out.2⟩
  · obtain ⟨hlt, hname⟩ := isAt_lt hat
    have HD := Lib.hid (show dropAt l s = delI l (lowerI l s) by unfold dropAt; rw [if_pos hat])
    have HLEN := Lib.hid (show (dropAt l s).length = l.length - 1 by rw [HD.out]; exact delI_len _ _ hlt)
    have HAT := Lib.hid hat
    clear hat hname
    obtain ⟨i, hi⟩ : ∃ i, i = lowerI l s := ⟨_, rfl⟩
    rw [← hi] at HD hlt ⊢
    clear hi
    have hw1 : IntKind.i64.wrap ((i : Int) + 1) = (i : Int) + 1 := by rw [IntKind.wrap_i64]; omega
    go_wp2_with fail
    refine (delete_any HP2.out.1 hl hlt).mono ?_; rintro e w3 ⟨A3, c3, rfl, hO3, hg3⟩
    have HP3 := Lib.hid (And.intro hO3 (HP2.out.1.belowGrown HP2.out.2 hg3 (Nat.le_refl _) HP2.out.2.size))
    clear hO3 hg3
    go_wp2_with fail
    go_ret2
    exact ⟨A3, c3, by rw [HLEN.out, HAT.out] <;> rfl, by rw [HLEN.out, HD.out]; exact HP3.out.1, HP3.out.2⟩

/-! ### Find -/
def zeroIm : Im := ⟨⟨#[]⟩, 0, 0⟩
def findOf (l : List Im) (s : ByteArray) : Im := if isAt l s then (match l[lowerI l s]? with | some x => x | none => zeroIm) else zeroIm
theorem im_one (x : Im) : x.cells.all (·.oneCell') = true := by
  simp [Im.cells, Value.oneCell']
theorem szIm : (Try.prog.info? 46).map (·.size) = some 3 := by kernel_rfl
set_option maxHeartbeats 2000000 in
theorem find_any (l : List Im) (s : ByteArray) (A : Option Addr) (c : Nat) (w : World) (hr : Rds w encI A l) (hl : l.length ≤ 100000) (hs : SortedN l) :
    Calls Try.prog 37 #[.slice A l.length c, .string s] w fun e w' => e = .returned (.tuple #[.agg (findOf l s).cells, .bool (isAt l s)]) ∧ Below w.heap.size w w' := by
  have HR := Lib.hid hr
  have HS := Lib.hid hs
  clear hr hs
  have HB0 := Lib.hid (And.intro (HR.out.alloc (.cells zeroIm.cells 46)) (And.intro (Blk.new w 46 zeroIm.cells) ((Below.refl w.heap.size w).alloc (Nat.le_refl _) (.cells zeroIm.cells 46))))
  go_enter Try.func37, Try.ntmps37
  go_wp2_with fail
  refine (at_any l s A c _ HB0.out.1 (by omega) HS.out).mono ?_; rintro e w1 ⟨rfl, hb1⟩
  have HP1 := Lib.hid (And.intro (HB0.out.1.below hb1) (And.intro (HB0.out.2.1.belowAll hb1) (HB0.out.2.2.trans (hb1.mono HB0.out.2.2.size))))
  clear hb1 HB0
  cases hat : isAt l s
  · have HD := Lib.hid (show findOf l s = zeroIm by unfold findOf; rw [hat]; rfl)
    have HAT := Lib.hid hat
    clear hat
    go_wp2_with (refine wl_store_blk rfl 46 (.tmp 4) (.tmp 16) rfl w.heap.size 46 zeroIm.cells zeroIm.cells rfl rfl HP1.out.2.1 rfl szIm (im_one _) ?_; intro w5 hR5 hg5 hs5)
    have hl5 := hR5.cell
    exact bodyPost_ret (v := .tuple #[.agg zeroIm.cells, .bool false]) (by simp [results, Try.results37, go_sem, hl5]) rfl ⟨by rw [HD.out, HAT.out], HP1.out.2.2.grown hg5 HP1.out.2.2.size (by intro k hk; cases hk; exact Nat.le_refl _)⟩
  · obtain ⟨hlt, hname⟩ := isAt_lt hat
    have HD := Lib.hid (show findOf l s = l[lowerI l s] by unfold findOf; rw [if_pos hat, List.getElem?_eq_getElem hlt])
    have HAT := Lib.hid hat
    clear hat hname
    obtain ⟨i, hi⟩ : ∃ i, i = lowerI l s := ⟨_, rfl⟩
    have hlt' : i < l.length := by rw [hi]; exact hlt
    have HD2 : Hid (findOf l s = l[i]) := by subst hi; exact HD.out
    rw [← hi]
    clear hi hlt HD
    obtain ⟨b, off, rfl, hb, c0, c1, c2⟩ := HP1.out.1.im hlt'
    have dk : (i : Int) < (l.length : Int) := by omega
    generalize l[i] = x at *
    go_wp2_with (refine wl_store_blk rfl 46 (.tmp 4) (.tmp 20) rfl w.heap.size 46 zeroIm.cells x.cells rfl rfl HP1.out.2.1 rfl szIm (im_one _) ?_; intro w5 hR5 hg5 hs5)
    have hl5 := hR5.cell
    exact bodyPost_ret (v := .tuple #[.agg x.cells, .bool true]) (by simp [results, Try.results37, go_sem, hl5]) rfl ⟨by rw [HD2.out, HAT.out], HP1.out.2.2.grown hg5 HP1.out.2.2.size (by intro k hk; cases hk; exact Nat.le_refl _)⟩
end Go.Proofs.Ytfaklhdafpbkmaa
