/- Several texts in one: The reference's Cut: the pod that bytes begin with, and how many bytes it has. -/
import Derived.StillTailTactics
import Derived.Deep.RegionHeld3
import Derived.Deep.DeepCutAuto
import Derived.Outline
import Derived.Deep.RegionLaw
import Derived.Test.YtakgblgbfbpmoaaDoorMV
import Derived.Test.YtakgblgbfbpmoaaDoorMN
import Derived.Test.YtakgblgbfbpmoaaDoorMB
import Derived.Test.YtakgblgbfbpmoaaDoorMC
namespace Go.Proofs.YtakgblgbfbpmoaaDoor
open Go.RowKit

section
variable {P : Program} {md : Region.Mode} {ops : Array Oper} {Q : Exit → Act → World → Prop} {S : World → Prop} {fuel : Nat} {listed : Array Bool} {a : Act} {w : World}
theorem held_storeC (i : Nat) {oi : Oper} (hi : ops[i]? = some oi) (hr : Region.ready md ops listed = [i]) (hw : Region.wanted oi (yielded ops a.tmps) = true) (ty : TypeId) (x y : Operand) (ho : oi.op = .store ty x y)
    (g : Nat) (t : TypeId) (cur cells : Array Value) (hx : a.eval x = .pointer (some ⟨g, 0, none⟩)) (hy : a.eval y = .agg cells)
    (hb : Blk w g t cur) (hs : cells.size = cur.size) (hn : (P.info? ty).map (·.size) = some cells.size) (h1 : cells.all (·.oneCell') = true)
    (h : ∀ w', Blk w' g t cells → w.grownBy w' (some g) → w'.heap.size = w.heap.size → S w' ∧ wpAnyH P md ops Q S fuel (listed.setIfInBounds i true) (a.put oi.dst undef) w') : wpAnyH P md ops Q S (fuel + 1) listed a w := by
  have hth : w.there g 0 cells.size := fun j hj => ⟨by rw [Nat.zero_add, hb.cell j, Array.getElem?_eq_getElem (by omega)]; rfl, by rw [Nat.zero_add]; exact hb.frozen j⟩
  obtain ⟨h2, h3, h4⟩ := setCells_blk g t cells.toList 0 w cur.toList (by simp; omega) (by simpa using hb)
  have e : (cur.toList.take 0 ++ cells.toList ++ cur.toList.drop (0 + cells.toList.length)).toArray = cells := by
    rw [List.drop_of_length_le (by simp; omega)]; simp
  rw [e] at h2
  obtain ⟨s1, s2⟩ := h _ h2 h3 h4
  exact held_op i hi hr hw fun K hK => wp_store_mid ty x y ho g 0 cells hx hy hth hn h1 (hK undef _ s1 s2)
theorem held_twoD2 (i j di dj : Nat) {oi oj : Oper} (hi : ops[i]? = some oi) (hj : ops[j]? = some oj) (hr : Region.ready md ops listed = [i, j]) (hwi : Region.wanted oi (yielded ops a.tmps) = true) (hwj : Region.wanted oj (yielded ops a.tmps) = true)
    (h1 : ∀ K : Act → World → Prop, (∀ v w', S w' → wpAnyH P md ops Q S fuel (listed.setIfInBounds i true) (a.put (some di) v) w' → K (a.put (some di) v) w') → Oper.wp P oi a w K Q)
    (h2 : ∀ K : Act → World → Prop, (∀ v w', S w' → wpAnyH P md ops Q S fuel (listed.setIfInBounds j true) (a.put (some dj) v) w' → K (a.put (some dj) v) w') → Oper.wp P oj a w K Q) : wpAnyH P md ops Q S (fuel + 1) listed a w := by
  refine wpAnyH_ready (rs := [i, j]) hr (by simp) ?_
  refine AllReadyH.cons hi (fun K hK => ?_) (AllReadyH.cons hj (fun K hK => ?_) AllReadyH.nil)
  · rw [if_pos hwi]
    exact h1 K fun v w' hS hh => hK.out _ _ hS fun _ => hh
  · rw [if_pos hwj]
    exact h2 K fun v w' hS hh => hK.out _ _ hS fun _ => hh
end
theorem beTo_take (l : List UInt8) (k : Nat) : ∀ j, j ≤ k → beTo (l.take k) j = beTo l j := by
  intro j
  induction j with
  | zero => intro _; rfl
  | succ j ih =>
    intro hj
    rw [beTo, beTo, ih (by omega), List.getD_eq_getElem?_getD, List.getD_eq_getElem?_getD, List.getElem?_take_of_lt (by omega)]
/-- the k-th number as the reference reads it -/
def refN (r : List UInt8) (k : Nat) : Int := numberOf ((r.drop (8 * k)).take 8)
theorem refN_accN (r : List UInt8) (k : Nat) (_h : 8 * k + 8 ≤ r.length) : (0 ≤ accN r k 8 ∧ refN r k = accN r k 8) ∨ (accN r k 8 < 0 ∧ refN r k = -1) := by
  unfold refN numberOf accN
  have e0 : ((r.drop (8 * k)).take 8).getD 0 0 = (r.drop (8 * k)).getD 0 0 := by
    rw [List.getD_eq_getElem?_getD, List.getD_eq_getElem?_getD, List.getElem?_take_of_lt (by omega)]
  rw [e0, beTo_take _ 8 8 (Nat.le_refl _)]
  have hb := beTo_bd (r.drop (8 * k)) 8
  have e1 : beTo (r.drop (8 * k)) 8 = ((r.drop (8 * k)).getD 0 0).toNat * 72057594037927936 + (beTo (r.drop (8 * k)) 8 - ((r.drop (8 * k)).getD 0 0).toNat * 72057594037927936) := by omega
  have hbig : ∀ (l : List UInt8) (j : Nat), 1 ≤ j → ((l.getD 0 0).toNat : Int) * 256 ^ (j - 1) ≤ beTo l j := by
    intro l j
    induction j with
    | zero => intro _h; omega
    | succ j ih =>
      intro _
      rcases Nat.eq_zero_or_pos j with rfl | hj
      · simp [beTo]
      · have := ih hj
        rw [beTo]
        obtain ⟨i, rfl⟩ : ∃ i, j = i + 1 := ⟨j - 1, by omega⟩
        simp only [Nat.add_sub_cancel] at this ⊢
        rw [Int.pow_succ]
        have h2 : ((l.getD 0 0).toNat : Int) * (256 ^ i * 256) = 256 * (((l.getD 0 0).toNat : Int) * 256 ^ i) := by rw [← Int.mul_assoc, Int.mul_comm]
        rw [h2]
        omega
  have h8 := hbig (r.drop (8 * k)) 8 (by omega)
  simp only [show (8 - 1 : Nat) = 7 from rfl, show (256 : Int) ^ 7 = 72057594037927936 from by decide] at h8
  have hb2 : beTo (r.drop (8 * k)) 8 < 18446744073709551616 := by have := hb.2; rwa [show (256 : Int) ^ 8 = 18446744073709551616 from by decide] at this
  rw [IntKind.wrap_i64]
  by_cases h : 127 < ((r.drop (8 * k)).getD 0 0).toNat
  · rw [if_pos h]; right; exact ⟨by omega, rfl⟩
  · rw [if_neg h]
    have : beTo (r.drop (8 * k)) 8 ≤ 9223372036854775807 := (beTo_small (r.drop (8 * k)) (by omega) 7 (by omega)).1
    left; constructor <;> omega
theorem refN_I64 (r : List UInt8) (k : Nat) (h : 8 * k + 8 ≤ r.length) : I64 (refN r k) := by
  have := accN_I64 r k 8
  rcases refN_accN r k h with ⟨_, e⟩ | ⟨_, e⟩
  · rw [e]; exact this
  · rw [e]; exact ⟨by omega, by omega⟩
def refPd (id im : ByteArray) (r : List UInt8) : Pd := ⟨id, refN r 0 - 1073741824, ((r.getD 64 0).toNat : Int) == 1, refN r 2, refN r 3, refN r 4, refN r 5, refN r 6, refN r 7, im, refN r 1⟩
def refOk (id im : ByteArray) (r : List UInt8) : Bool := (decide (0 ≤ refN r 0) && decide (refN r 0 ≤ 2147483648)) && (decide ((r.getD 64 0).toNat ≤ 1) && (refPd id im r).right)
theorem right_nonneg (p : Pd) (h : p.right = true) : 0 ≤ p.q0 ∧ 0 ≤ p.q1 ∧ 0 ≤ p.q2 ∧ 0 ≤ p.l0 ∧ 0 ≤ p.l1 ∧ 0 ≤ p.l2 ∧ 0 ≤ p.size := by
  unfold Pd.right Pd.amountsOk Pd.rest bad at h
  simp only [Bool.and_eq_true, Bool.not_eq_true', Bool.or_eq_false_iff, decide_eq_false_iff_not, decide_eq_true_eq] at h
  omega
theorem refOk_eq (id im : ByteArray) (r : List UInt8) (h : 64 < r.length) : refOk id im r = cutOk id im r ∧ (cutOk id im r = true → refPd id im r = cutPd id im r) := by
  have key : (0 ≤ accN r 0 8 ∧ 0 ≤ accN r 1 8 ∧ 0 ≤ accN r 2 8 ∧ 0 ≤ accN r 3 8 ∧ 0 ≤ accN r 4 8 ∧ 0 ≤ accN r 5 8 ∧ 0 ≤ accN r 6 8 ∧ 0 ≤ accN r 7 8) → refPd id im r = cutPd id im r ∧ refN r 0 = accN r 0 8 := by
    rintro ⟨h0, h1, h2, h3, h4, h5, h6, h7⟩
    have g : ∀ k, k < 8 → 0 ≤ accN r k 8 → refN r k = accN r k 8 := fun k hk h0 => by
      rcases refN_accN r k (by omega) with ⟨_, e⟩ | ⟨_, _⟩
      · exact e
      · omega
    refine ⟨?_, g 0 (by omega) h0⟩
    unfold refPd cutPd cutPdY
    rw [g 0 (by omega) h0, g 1 (by omega) h1, g 2 (by omega) h2, g 3 (by omega) h3, g 4 (by omega) h4, g 5 (by omega) h5, g 6 (by omega) h6, g 7 (by omega) h7]
  have neg : ∀ k, k < 8 → accN r k 8 < 0 → refN r k < 0 := fun k hk h0 => by
    rcases refN_accN r k (by omega) with ⟨_, e⟩ | ⟨_, e⟩
    · omega
    · omega
  by_cases hall : (0 ≤ accN r 0 8 ∧ 0 ≤ accN r 1 8 ∧ 0 ≤ accN r 2 8 ∧ 0 ≤ accN r 3 8 ∧ 0 ≤ accN r 4 8 ∧ 0 ≤ accN r 5 8 ∧ 0 ≤ accN r 6 8 ∧ 0 ≤ accN r 7 8)
  · obtain ⟨e1, e2⟩ := key hall
    refine ⟨?_, fun _ => e1⟩
    unfold refOk cutOk notWide
    rw [e1, e2]
  · have f1 : cutOk id im r = false := by
      cases hc : cutOk id im r
      · rfl
      · exfalso
        unfold cutOk notWide at hc
        simp only [Bool.and_eq_true, decide_eq_true_eq] at hc
        have := right_nonneg _ hc.2.2
        simp only [cutPd, cutPdY] at this
        omega
    have f2 : refOk id im r = false := by
      cases hc : refOk id im r
      · rfl
      · exfalso
        unfold refOk at hc
        simp only [Bool.and_eq_true, decide_eq_true_eq] at hc
        have := right_nonneg _ hc.2.2
        simp only [refPd] at this
        have m0 := neg 0 (by omega)
        have m1 := neg 1 (by omega)
        have m2 := neg 2 (by omega)
        have m3 := neg 3 (by omega)
        have m4 := neg 4 (by omega)
        have m5 := neg 5 (by omega)
        have m6 := neg 6 (by omega)
        have m7 := neg 7 (by omega)
        omega
    exact ⟨by rw [f1, f2], fun h => by rw [f1] at h; cases h⟩

set_option maxRecDepth 100000 in
theorem refCut_nil (A : Option Addr) (c : Nat) (w : World) :
    Calls Tryd.prog 38 #[.slice A 0 c] w fun e w' => e = .returned (.tuple #[.agg zeroPod, .int .i64 0]) ∧ Below w.heap.size w w' := by
  go_enter Tryd.func38, Tryd.ntmps38
  have hR := Blk.new w 44 zeroPod
  have hB : Below w.heap.size w (w.alloc (.cells zeroPod 44)) := (Below.refl _ _).alloc (Nat.le_refl _) _
  have HH := Lib.hid (And.intro hR hB)
  clear hR hB
  go_wp2_with (refine wl_store_blk rfl 44 (.tmp 2) (.tmp 22) rfl w.heap.size 44 zeroPod zeroPod rfl rfl HH.out.1 rfl infoPod zeroPod_one ?_; intro w5 hR5 hg5 hs5)
  have hl5 := hR5.cell
  exact bodyPost_ret (v := .tuple #[.agg zeroPod, .int .i64 0]) (by simp [results, Tryd.results38, go_sem, hl5]) rfl ⟨rfl, HH.out.2.grown hg5 HH.out.2.size (by intro k hk; cases hk; exact Nat.le_refl _)⟩

set_option maxRecDepth 100000 in
theorem refCut_no1 (A : Option Addr) (c : Nat) (x : UInt8) (l : List UInt8) (w : World) (hr : Rds w encB A (x :: l)) (hx : l.length ≤ x.toNat) (hm : l.length ≤ 140737488355328) :
    Calls Tryd.prog 38 #[.slice A (x :: l).length c] w fun e w' => e = .returned (.tuple #[.agg zeroPod, .int .i64 0]) ∧ Below w.heap.size w w' := by
  obtain ⟨b, off, rfl, hb, hcell⟩ := hr (by simp)
  have h0 : w.cell? ⟨b, off, none⟩ = some (.int .u8 x.toNat) := by have := hcell 0 (.int .u8 x.toNat) (by rw [encB_all]; rfl); simpa using this
  have h1 : (w.alloc (.cells zeroPod 44)).cell? ⟨b, off, none⟩ = some (.int .u8 x.toNat) := ((bcell ((Below.refl _ w).alloc (Nat.le_refl _) (.cells zeroPod 44))).1 b off hb).trans h0
  simp only [List.length_cons]
  have hx255 : (x.toNat : Int) ≤ 255 := by have := x.toNat_lt; omega
  have d1 : decide ((l.length : Int) + 1 < 1) = false := decide_eq_false (by omega)
  have d2 : decide ((l.length : Int) + 1 < (x.toNat : Int) + 2) = true := decide_eq_true (by omega)
  have hR := Blk.new w 44 zeroPod
  have hB : Below w.heap.size w (w.alloc (.cells zeroPod 44)) := (Below.refl _ _).alloc (Nat.le_refl _) _
  have HH := Lib.hid (And.intro hR hB)
  clear hR hB hcell h0 hr hx
  go_enter Tryd.func38, Tryd.ntmps38
  go_wp2_with (refine wl_store_blk rfl 44 (.tmp 2) (.tmp 22) rfl w.heap.size 44 zeroPod zeroPod rfl rfl HH.out.1 rfl infoPod zeroPod_one ?_; intro w5 hR5 hg5 hs5)
  have hl5 := hR5.cell
  exact bodyPost_ret (v := .tuple #[.agg zeroPod, .int .i64 0]) (by simp [results, Tryd.results38, go_sem, hl5]) rfl ⟨rfl, HH.out.2.grown hg5 HH.out.2.size (by intro k hk; cases hk; exact Nat.le_refl _)⟩

theorem Rds.drop_at {w : World} {b off : Nat} {L : List UInt8} (h : Rds w encB (some ⟨b, off, none⟩) L) (k : Nat) : Rds w encB (some ⟨b, off + k, none⟩) (L.drop k) := by
  have h2 := h.drop k (L.length + k + 1) (by omega)
  rw [if_neg (by omega), Nat.mul_one] at h2
  simpa [add_mk] using h2
/-- the numbers that are read behind k rounds -/
def refF (r : List UInt8) (k : Nat) : Nat → Int := fun n => if n = 1 ∨ (2 ≤ n ∧ n < 2 + k) ∨ (5 ≤ n ∧ n < 5 + k) then refN r n else 0
theorem refF_next (r : List UInt8) (k : Nat) (hk : k < 3) : upd (upd (refF r k) (k + 2) (refN r (k + 2))) (k + 5) (refN r (k + 5)) = refF r (k + 1) := by
  funext n
  unfold upd refF
  by_cases h1 : n = k + 5
  · subst h1; rw [if_pos rfl, if_pos (by omega)]
  · by_cases h2 : n = k + 2
    · subst h2; rw [if_neg h1, if_pos rfl, if_pos (by omega)]
    · rw [if_neg h1, if_neg h2]
      by_cases h3 : n = 1 ∨ (2 ≤ n ∧ n < 2 + k) ∨ (5 ≤ n ∧ n < 5 + k)
      · rw [if_pos h3, if_pos (by omega)]
      · rw [if_neg h3, if_neg (by omega)]
/-- what the reference answers where there are bytes enough -/
def RefPost (id im : ByteArray) (r : List UInt8) (j : Nat) (w : World) (e : Ending) (w' : World) : Prop :=
  (refOk id im r = true ∧ e = .returned (.tuple #[.agg (refPd id im r).cells, .int .i64 ((j : Int) + 65)]) ∧ Below w.heap.size w w') ∨
  (refOk id im r = false ∧ e = .returned (.tuple #[.agg zeroPod, .int .i64 0]) ∧ Below w.heap.size w w')
theorem infoPodA : (Tryd.prog.info? 44).map (·.size) = some 11 := infoPod

set_option maxRecDepth 100000 in
set_option maxHeartbeats 16000000 in
theorem refCut_long (A : Option Addr) (c : Nat) (x y : UInt8) (l m : List UInt8) (w : World) (hr : Rds w encB A (x :: l)) (hc : (x :: l).length ≤ c) (hm : c ≤ 9223372036854775807) (hbd : l.length ≤ 140737488355328) (hx : x.toNat ≤ l.length) (hl : l.drop x.toNat = y :: m) (hlong : y.toNat + 65 ≤ m.length) (j : Nat) (hj : j = x.toNat + 2 + y.toNat) (id im : ByteArray) (hid : str (l.take x.toNat) = id) (him : str (m.take y.toNat) = im) (r : List UInt8) (hrr : m.drop y.toNat = r) :
    Calls Tryd.prog 38 #[.slice A (x :: l).length c] w (RefPost id im r j w) := by
  obtain ⟨b, off, rfl, hb, hcell⟩ := hr (by simp)
  have hlm : l.length = x.toNat + 1 + m.length := by have := congrArg List.length hl; rw [List.length_drop, List.length_cons] at this; omega
  obtain ⟨i, hi⟩ : ∃ i : Nat, i = 1 + x.toNat := ⟨_, rfl⟩
  have hB : Below w.heap.size w (w.alloc (.cells zeroPod 44)) := (Below.refl _ _).alloc (Nat.le_refl _) _
  have hB2 : Below w.heap.size w ((w.alloc (.cells zeroPod 44)).alloc (.cells zeroPod 44)) := hB.alloc (by simp) _
  -- the pieces
  have dr1 : (x :: l).drop 1 = l := rfl
  have dri : (x :: l).drop (i + 1) = m := by
    rw [hi, show 1 + x.toNat + 1 = (x.toNat + 1) + 1 by omega, List.drop_succ_cons, ← List.drop_drop, hl]; rfl
  have drj : (x :: l).drop j = r := by
    rw [hj, show x.toNat + 2 + y.toNat = (i + 1) + y.toNat by omega, ← List.drop_drop, dri, hrr]
  have dri0 : (x :: l)[i]? = some y := by
    have : (l.drop x.toNat)[0]? = some y := by rw [hl]; rfl
    rw [hi, Nat.add_comm, List.getElem?_cons_succ]
    rwa [List.getElem?_drop, Nat.add_zero] at this
  have hrl : r.length = m.length - y.toNat := by rw [← hrr, List.length_drop]
  have hr64 : 64 < r.length := by omega
  have sid : Rds w encB (some ⟨b, off + 1, none⟩) (l.take x.toNat) := by have := (hr.drop_at 1).take x.toNat; rwa [dr1] at this
  have sim : Rds w encB (some ⟨b, off + (i + 1), none⟩) (m.take y.toNat) := by have := (hr.drop_at (i + 1)).take y.toNat; rwa [dri] at this
  have snum : ∀ k, Rds w encB (some ⟨b, off + (j + 8 * k), none⟩) ((r.drop (8 * k)).take 8) := fun k => by
    have := (hr.drop_at (j + 8 * k)).take 8
    rwa [← List.drop_drop, drj] at this
  have sy : w.cell? ⟨b, off + (j + 64), none⟩ = some (.int .u8 (r.getD 64 0).toNat) := by
    refine hcell (j + 64) _ ?_
    have h1 : (x :: l)[j + 64]? = some (r.getD 64 0) := by
      rw [← List.getElem?_drop, drj, List.getD_eq_getElem?_getD, List.getElem?_eq_getElem hr64]; rfl
    rw [encB_all, List.getElem?_map, h1]; rfl
  have lid : (l.take x.toNat).length = i - 1 := by rw [List.length_take]; omega
  have lim : (m.take y.toNat).length = j - (i + 1) := by rw [List.length_take]; omega
  have lnum : ∀ k, k < 8 → ((r.drop (8 * k)).take 8).length = 8 := fun k hk => by rw [List.length_take, List.length_drop]; omega
  have cid : ∀ W : World, Below w.heap.size w W → (convert 28 9 (.slice (some ⟨b, off + 1, none⟩) (i - 1) (c - 1))).run Tryd.prog W = .ok (.string id) W := fun W hW => by
    have := run_strB W _ _ (c - 1) (sid.below hW); rwa [lid, hid] at this
  have cim : ∀ W : World, Below w.heap.size w W → (convert 28 9 (.slice (some ⟨b, off + (i + 1), none⟩) (j - (i + 1)) (c - (i + 1)))).run Tryd.prog W = .ok (.string im) W := fun W hW => by
    have := run_strB W _ _ (c - (i + 1)) (sim.below hW); rwa [lim, him] at this
  have cnum : ∀ k, k < 8 → ∀ o, o = j + 8 * k → ∀ (W : World) (C : Nat), Below w.heap.size w W → Calls Tryd.prog 51 #[.slice (some ⟨b, off + o, none⟩) 8 C] W fun e w' => e = .returned (.int .i64 (refN r k)) ∧ W = w' := fun k hk o ho W C hW => by
    subst ho
    exact number_calls ((r.drop (8 * k)).take 8) _ C W ((snum k).below hW) (lnum k hk)
  have q1 := cid _ hB.drew
  have q2 := cid _ hB2.drew
  have q3 := cim _ hB.drew
  have q4 := cim _ hB2.drew
  have k0 := ((bcell hB).1 b off hb).trans (show w.cell? ⟨b, off, none⟩ = some (.int .u8 x.toNat) by have := hcell 0 (.int .u8 x.toNat) (by rw [encB_all]; rfl); simpa using this)
  have k1 := ((bcell hB).1 b (off + i) hb).trans (hcell i (.int .u8 y.toNat) (by rw [encB_all, List.getElem?_map, dri0]; rfl))
  obtain ⟨n, hn⟩ : ∃ n : Nat, n = (x :: l).length := ⟨_, rfl⟩
  rw [← hn] at hc ⊢
  have hn2 : n = l.length + 1 := hn
  have e1 : (1 : Int) + (x.toNat : Int) = (i : Int) := by omega
  have hx255 : (i : Int) ≤ 256 := by have := x.toNat_lt; omega
  have hi1 : (1 : Int) ≤ (i : Int) := by omega
  have hy0 : (0 : Int) ≤ (y.toNat : Int) := by omega
  have hy255 : (y.toNat : Int) ≤ 255 := by have := y.toNat_lt; omega
  have e2 : (i : Int) + 1 + (y.toNat : Int) = (j : Int) := by omega
  have d1 : decide ((n : Int) < 1) = false := decide_eq_false (by omega)
  have d2 : decide ((n : Int) < (x.toNat : Int) + 2) = false := decide_eq_false (by omega)
  have hin : i < n := by omega
  have hin2 : (i : Int) < (n : Int) := by omega
  have hn0 : 0 < n := by omega
  have hn1 : (0 : Int) < (n : Int) := by omega
  have hnm : (n : Int) ≤ 140737488355400 := by omega
  have hjm : (j : Int) ≤ 600 := by omega
  have hj0 : (0 : Int) ≤ (j : Int) := by omega
  have hnj2 : (j : Int) + 65 ≤ (n : Int) := by omega
  have a1 : (i : Int) ≤ (c : Int) := by omega
  have a2 : (j : Int) ≤ (c : Int) := by omega
  have a3 : (j : Int) + 16 ≤ (c : Int) := by omega
  have a4 : (i : Int) + 1 ≤ (j : Int) := by omega
  have n1 : ¬ (c = 1) := by omega
  have n2 : ¬ (c = i + 1) := by omega
  have n3 : ¬ (c = j + 8) := by omega
  have n4 : ¬ (c = j) := by omega
  have f1 : ((i : Int) - 1).toNat = i - 1 := by omega
  have f2 : ((j : Int) - ((i : Int) + 1)).toNat = j - (i + 1) := by omega
  have f3 : ((i : Int) + 1).toNat = i + 1 := by omega
  have f4 : ((j : Int) + 8).toNat = j + 8 := by omega
  have f5 : ((j : Int) + 16 - ((j : Int) + 8)).toNat = 8 := by omega
  have f5b : ((j : Int) + 16).toNat = j + 16 := by omega
  have f5c : j + 16 - (j + 8) = 8 := by omega
  have f51 : ((j : Int) + 8 - (j : Int)).toNat = 8 := by omega
  have f6 : (j : Int) + 8 ≤ (j : Int) + 16 := by omega
  have f61 : (j : Int) ≤ (j : Int) + 8 := by omega
  have f62 : (j : Int) + 8 ≤ (c : Int) := by omega
  have f7 : (0 : Int) ≤ (j : Int) + 8 := by omega
  have f8 : (0 : Int) ≤ (i : Int) + 1 := by omega
  have f9 : (1 : Int) ≤ (c : Int) := by omega
  have w1 : IntKind.i64.wrap ((i : Int) + 1) = (i : Int) + 1 := by rw [IntKind.wrap_i64]; omega
  have w2 : IntKind.i64.wrap ((j : Int) + 8) = (j : Int) + 8 := by rw [IntKind.wrap_i64]; omega
  have w3 : IntKind.i64.wrap ((j : Int) + 16) = (j : Int) + 16 := by rw [IntKind.wrap_i64]; omega
  have hids : id.size ≤ 9223372036854775807 := by
    rw [← hid]
    show (l.take x.toNat).toArray.size ≤ _
    have := x.toNat_lt
    simp
    omega
  have hims : im.size ≤ 9223372036854775807 := by
    rw [← him]
    show (m.take y.toNat).toArray.size ≤ _
    have := y.toNat_lt
    simp
    omega
  have HID := Lib.hid (And.intro hids hims)
  clear hids hims
  have HCI := Lib.hid cid
  have HCM := Lib.hid cim
  have HX := Lib.hid (And.intro cnum (And.intro sy (And.intro hr64 (And.intro (show j + 65 ≤ n by omega) (show n ≤ c from hc)))))
  have HB := Lib.hid (And.intro hB hB2)
  clear hr hcell hlm hi hn2 hn hl hB hB2 hid him hrr hj dr1 dri drj dri0 hrl sid sim snum sy lid lim lnum cid cim cnum hr64 hx hlong hbd
  go_enter Tryd.func38, Tryd.ntmps38
  go_wp2_with fail
  have hpz := Blk.new (w.alloc (.cells zeroPod 44)) 44 (cutCells id im (refF r 0))
  have hz1 : (w.alloc (.cells zeroPod 44)).heap.size = w.heap.size + 1 := by simp
  rw [hz1] at hpz
  have HPZ := Lib.hid hpz
  have HB3 := Lib.hid (And.intro ((Blk.new w 44 zeroPod).alloc (.cells (cutCells id im (refF r 0)) 44)) ((HB.out.1.alloc (by simp) (.cells (cutCells id im (refF r 0)) 44)).drew))
  clear hpz hz1
  go_cut [6] (fun v W => v = .pointer (some ⟨w.heap.size + 1, 0, none⟩) ∧ Blk W (w.heap.size + 1) 44 (cutCells id im (refF r 0)) ∧ Blk W w.heap.size 44 zeroPod ∧ Below w.heap.size w W)
  case first =>
    have HR0 := Lib.hid (Blk.new w 44 zeroPod).drew
    have HBd := Lib.hid HB.out.1.drew
    have HZ0 : Hid ((w.alloc (.cells zeroPod 44)).drew.heap.size = w.heap.size + 1) := Lib.hid (by simp [World.drew])
    refine wp_region_held_drew (S := fun W => Below w.heap.size w W) (by kernel_rfl) HBd.out (fun hHeld => ?_)
    refine held_take 0 42 (.slice (some ⟨b, off, none⟩) n c) rfl rfl (by kernel_rfl) (by kernel_rfl) (by kernel_rfl) (fun _ _ _ h => h) (by rfl) (by intro w' hSw; (try dsimp only at hSw); go_simp; (try (with_reducible rfl))) (by assumption) ?_
    simp only [Act.put, List.setIfInBounds_toArray, List.set_cons_zero, List.set_cons_succ]
    refine held_take 1 43 (.int .i64 i) rfl rfl (by kernel_rfl) (by kernel_rfl) (by kernel_rfl) (fun _ _ _ h => h) (by rfl) (by intro w' hSw; (try dsimp only at hSw); go_simp; (try (with_reducible rfl))) (by assumption) ?_
    simp only [Act.put, List.setIfInBounds_toArray, List.set_cons_zero, List.set_cons_succ]
    refine held_take 2 44 (.slice (some ⟨b, off + 1, none⟩) (i - 1) (c - 1)) rfl rfl (by kernel_rfl) (by kernel_rfl) (by kernel_rfl) (fun _ _ _ h => h) (by rfl) (by intro w' hSw; (try dsimp only at hSw); go_simp; (first | done | with_reducible rfl | (simp; done))) (by assumption) ?_
    simp only [Act.put, List.setIfInBounds_toArray, List.set_cons_zero, List.set_cons_succ]
    refine held_take 3 45 (.string id) rfl rfl (by kernel_rfl) (by kernel_rfl) (by kernel_rfl) (fun _ _ _ h => h) (by rfl) (by intro w' hSw; (try dsimp only at hSw); go_simp; (first | done | with_reducible rfl | (first | (rw [HCI.out _ hSw]; rfl) | (simp [HCI.out _ hSw]; done)))) (by assumption) ?_
    simp only [Act.put, List.setIfInBounds_toArray, List.set_cons_zero, List.set_cons_succ]
    refine held_take 4 46 (.slice (some ⟨b, off, none⟩) n c) rfl rfl (by kernel_rfl) (by kernel_rfl) (by kernel_rfl) (fun _ _ _ h => h) (by rfl) (by intro w' hSw; (try dsimp only at hSw); go_simp; (try (with_reducible rfl))) (by assumption) ?_
    simp only [Act.put, List.setIfInBounds_toArray, List.set_cons_zero, List.set_cons_succ]
    refine held_take 5 47 (.int .i64 i) rfl rfl (by kernel_rfl) (by kernel_rfl) (by kernel_rfl) (fun _ _ _ h => h) (by rfl) (by intro w' hSw; (try dsimp only at hSw); go_simp; (try (with_reducible rfl))) (by assumption) ?_
    simp only [Act.put, List.setIfInBounds_toArray, List.set_cons_zero, List.set_cons_succ]
    refine held_take 6 48 (.int .i64 ((i : Int) + 1)) rfl rfl (by kernel_rfl) (by kernel_rfl) (by kernel_rfl) (fun _ _ _ h => h) (by rfl) (by intro w' hSw; (try dsimp only at hSw); go_simp; (first | done | with_reducible rfl | (first | (rw [w1]; done) | (simp [w1]; done)))) (by assumption) ?_
    simp only [Act.put, List.setIfInBounds_toArray, List.set_cons_zero, List.set_cons_succ]
    refine held_take 7 49 (.int .i64 j) rfl rfl (by kernel_rfl) (by kernel_rfl) (by kernel_rfl) (fun _ _ _ h => h) (by rfl) (by intro w' hSw; (try dsimp only at hSw); go_simp; (try (with_reducible rfl))) (by assumption) ?_
    simp only [Act.put, List.setIfInBounds_toArray, List.set_cons_zero, List.set_cons_succ]
    refine held_take 8 50 (.slice (some ⟨b, off + (i + 1), none⟩) (j - (i + 1)) (c - (i + 1))) rfl rfl (by kernel_rfl) (by kernel_rfl) (by kernel_rfl) (fun _ _ _ h => h) (by rfl) (by intro w' hSw; (try dsimp only at hSw); go_simp; (first | done | with_reducible rfl | (simp; done))) (by assumption) ?_
    simp only [Act.put, List.setIfInBounds_toArray, List.set_cons_zero, List.set_cons_succ]
    refine held_take 9 51 (.string im) rfl rfl (by kernel_rfl) (by kernel_rfl) (by kernel_rfl) (fun _ _ _ h => h) (by rfl) (by intro w' hSw; (try dsimp only at hSw); go_simp; (first | done | with_reducible rfl | (first | (rw [HCM.out _ hSw]; rfl) | (simp [HCM.out _ hSw]; done)))) (by assumption) ?_
    simp only [Act.put, List.setIfInBounds_toArray, List.set_cons_zero, List.set_cons_succ]
    refine held_take 10 52 (.slice (some ⟨b, off, none⟩) n c) rfl rfl (by kernel_rfl) (by kernel_rfl) (by kernel_rfl) (fun _ _ _ h => h) (by rfl) (by intro w' hSw; (try dsimp only at hSw); go_simp; (try (with_reducible rfl))) (by assumption) ?_
    simp only [Act.put, List.setIfInBounds_toArray, List.set_cons_zero, List.set_cons_succ]
    refine held_take 11 53 (.int .i64 j) rfl rfl (by kernel_rfl) (by kernel_rfl) (by kernel_rfl) (fun _ _ _ h => h) (by rfl) (by intro w' hSw; (try dsimp only at hSw); go_simp; (try (with_reducible rfl))) (by assumption) ?_
    simp only [Act.put, List.setIfInBounds_toArray, List.set_cons_zero, List.set_cons_succ]
    refine held_take 12 54 (.int .i64 ((j : Int) + 8)) rfl rfl (by kernel_rfl) (by kernel_rfl) (by kernel_rfl) (fun _ _ _ h => h) (by rfl) (by intro w' hSw; (try dsimp only at hSw); go_simp; (first | done | with_reducible rfl | (simp [w2]; done))) (by assumption) ?_
    simp only [Act.put, List.setIfInBounds_toArray, List.set_cons_zero, List.set_cons_succ]
    refine held_take 13 55 (.int .i64 j) rfl rfl (by kernel_rfl) (by kernel_rfl) (by kernel_rfl) (fun _ _ _ h => h) (by rfl) (by intro w' hSw; (try dsimp only at hSw); go_simp; (try (with_reducible rfl))) (by assumption) ?_
    simp only [Act.put, List.setIfInBounds_toArray, List.set_cons_zero, List.set_cons_succ]
    refine held_take 14 56 (.int .i64 ((j : Int) + 16)) rfl rfl (by kernel_rfl) (by kernel_rfl) (by kernel_rfl) (fun _ _ _ h => h) (by rfl) (by intro w' hSw; (try dsimp only at hSw); go_simp; (first | done | with_reducible rfl | (simp [w3]; done))) (by assumption) ?_
    simp only [Act.put, List.setIfInBounds_toArray, List.set_cons_zero, List.set_cons_succ]
    refine held_take 15 57 (.slice (some ⟨b, off + (j + 8), none⟩) 8 (c - (j + 8))) rfl rfl (by kernel_rfl) (by kernel_rfl) (by kernel_rfl) (fun _ _ _ h => h) (by rfl) (by intro w' hSw; (try dsimp only at hSw); go_simp; (first | done | with_reducible rfl | (simp; done))) (by assumption) ?_
    simp only [Act.put, List.setIfInBounds_toArray, List.set_cons_zero, List.set_cons_succ]
    refine held_twoD2 16 18 58 6 rfl rfl (by kernel_rfl) (by rfl) (by rfl) (fun K hK => ?_) (fun K hK => ?_)
    · go_simp
      go_at_call 51; (with_reducible refine (HX.out.1 1 (by omega) (j + 8) (by omega) _ _ HBd.out).mono ?_); rintro e w' ⟨rfl, rfl⟩
      refine hK _ _ HBd.out ?_
      clear hK K
      simp only [Act.put, List.setIfInBounds_toArray, List.set_cons_zero, List.set_cons_succ]
      refine held_take 17 59 (.agg #[.string id, .int .i64 0, .bool false, .int .i64 0, .int .i64 0, .int .i64 0, .int .i64 0, .int .i64 0, .int .i64 0, .string im, .int .i64 (refN r 1)]) rfl rfl (by kernel_rfl) (by kernel_rfl) (by kernel_rfl) (fun _ _ _ h => h) (by rfl) (by intro w' hSw; (try dsimp only at hSw); go_simp; (try (with_reducible rfl))) (by assumption) ?_
      simp only [Act.put, List.setIfInBounds_toArray, List.set_cons_zero, List.set_cons_succ]
      refine held_call 18 6 rfl rfl (by kernel_rfl) (by rfl) (fun K hK => ?_)
      go_simp
      have HBa := Lib.hid (HBd.out.alloc HBd.out.size (.cells zeroPod 44))
      refine hK _ _ HBa.out ?_
      clear hK K
      simp only [Act.put, List.setIfInBounds_toArray, List.set_cons_zero, List.set_cons_succ]
      have HNa : Hid (Blk ((w.alloc (.cells zeroPod 44)).drew.alloc (.cells zeroPod 44)) (w.heap.size + 1) 44 zeroPod) := by
        have h := Blk.new (w.alloc (.cells zeroPod 44)).drew 44 zeroPod
        rw [HZ0.out] at h
        exact Lib.hid h
      have HRa := Lib.hid (HR0.out.alloc (.cells zeroPod 44))
      refine held_storeC 19 rfl (by kernel_rfl) (by rfl) 44 (.tmp 6) (.tmp 59) rfl (w.heap.size + 1) 44 zeroPod #[.string id, .int .i64 0, .bool false, .int .i64 0, .int .i64 0, .int .i64 0, .int .i64 0, .int .i64 0, .int .i64 0, .string im, .int .i64 (refN r 1)] (by simp [Act.eval]) (by simp [Act.eval]) HNa.out rfl infoPod (by simp [Value.oneCell']) ?_
      intro w9 hN1 hg1 hs1
      have HFI := Lib.hid (And.intro hN1 (And.intro (HRa.out.grown hg1 (by intro e; injection e with e; omega)) (HBa.out.grown hg1 HBa.out.size (by intro k hk; cases hk; omega))))
      clear hN1 hg1 hs1
      refine ⟨HFI.out.2.2, ?_⟩
      simp only [Act.put, List.setIfInBounds_toArray]
      refine wpAnyH_done (by kernel_rfl) ?_ _
      clear hHeld
      go_wp2_with fail
      go_meet
      exact ⟨rfl, HFI.out.1, HFI.out.2.1, HFI.out.2.2⟩
    · go_simp
      have HBa := Lib.hid (HBd.out.alloc HBd.out.size (.cells zeroPod 44))
      refine hK _ _ HBa.out ?_
      clear hK K
      simp only [Act.put, List.setIfInBounds_toArray, List.set_cons_zero, List.set_cons_succ]
      have HNa : Hid (Blk ((w.alloc (.cells zeroPod 44)).drew.alloc (.cells zeroPod 44)) (w.heap.size + 1) 44 zeroPod) := by
        have h := Blk.new (w.alloc (.cells zeroPod 44)).drew 44 zeroPod
        rw [HZ0.out] at h
        exact Lib.hid h
      have HRa := Lib.hid (HR0.out.alloc (.cells zeroPod 44))
      refine held_call 16 58 rfl rfl (by kernel_rfl) (by rfl) (fun K hK => ?_)
      have HBb := Lib.hid HB.out.2.drew
      go_simp
      go_at_call 51; (with_reducible refine (HX.out.1 1 (by omega) (j + 8) (by omega) _ _ HBb.out).mono ?_); rintro e w' ⟨rfl, rfl⟩
      refine hK _ _ HBb.out ?_
      clear hK K
      simp only [Act.put, List.setIfInBounds_toArray, List.set_cons_zero, List.set_cons_succ]
      refine held_take 17 59 (.agg #[.string id, .int .i64 0, .bool false, .int .i64 0, .int .i64 0, .int .i64 0, .int .i64 0, .int .i64 0, .int .i64 0, .string im, .int .i64 (refN r 1)]) rfl rfl (by kernel_rfl) (by kernel_rfl) (by kernel_rfl) (fun _ _ _ h => h) (by rfl) (by intro w' hSw; (try dsimp only at hSw); go_simp; (try (with_reducible rfl))) (by assumption) ?_
      simp only [Act.put, List.setIfInBounds_toArray, List.set_cons_zero, List.set_cons_succ]
      refine held_storeC 19 rfl (by kernel_rfl) (by rfl) 44 (.tmp 6) (.tmp 59) rfl (w.heap.size + 1) 44 zeroPod #[.string id, .int .i64 0, .bool false, .int .i64 0, .int .i64 0, .int .i64 0, .int .i64 0, .int .i64 0, .int .i64 0, .string im, .int .i64 (refN r 1)] (by simp [Act.eval]) (by simp [Act.eval]) HNa.out rfl infoPod (by simp [Value.oneCell']) ?_
      intro w9 hN1 hg1 hs1
      have HFI := Lib.hid (And.intro hN1 (And.intro (HRa.out.grown hg1 (by intro e; injection e with e; omega)) (HBa.out.grown hg1 HBa.out.size (by intro k hk; cases hk; omega))))
      clear hN1 hg1 hs1
      refine ⟨HFI.out.2.2, ?_⟩
      simp only [Act.put, List.setIfInBounds_toArray]
      refine wpAnyH_done (by kernel_rfl) ?_ _
      clear hHeld
      go_wp2_with fail
      go_meet
      exact ⟨rfl, HFI.out.1, HFI.out.2.1, HFI.out.2.2⟩
  case rest =>
    clear q1 q2 q3 q4 HPZ HB3 HCI HCM
    obtain ⟨rfl, hP, hR, hBel⟩ := hcut
    have HH := Lib.hid (And.intro hP (And.intro hR hBel))
    clear hP hR hBel
    go_wp2_with fail
    refine (HX.out.1 0 (by omega) j (by omega) _ _ HH.out.2.2).mono ?_; rintro e w1 ⟨rfl, rfl⟩
    clear k0 k1 e1 hx255 hi1 hy0 hy255 e2 d1 d2 hin hin2 hn0 hn1 a1 a3 a4 n1 n2 n3 f1 f2 f3 f4 f5 f5b f5c f51 f6 f61 f62 f7 f8 f9 w1 w2 w3
    go_wp2_with fail
    go_loopw [8] (fun i wr => ∃ k : Nat, k ≤ 3 ∧ i = .int .i64 k ∧ Blk wr (w.heap.size + 1) 44 (cutCells id im (refF r k)) ∧ Blk wr w.heap.size 44 zeroPod ∧ Below w.heap.size w wr) (fun i _ => 3 - (intOf i).toNat)
    case atStart => exact ⟨0, by omega, rfl, HH.out.1, HH.out.2.1, HH.out.2.2⟩
    case round =>
      clear HH
      obtain ⟨k, hk, rfl, hP, hR, hBel⟩ := hrel
      by_cases hlt : k < 3
      · obtain ⟨s, hs⟩ : ∃ s : Nat, s = j + 16 + 8 * k := ⟨_, rfl⟩
        obtain ⟨s2, hs2⟩ : ∃ s : Nat, s = j + 40 + 8 * k := ⟨_, rfl⟩
        have g1 : (j : Int) + 16 + 8 * (k : Int) = (s : Int) := by omega
        have g2 : (j : Int) + 24 + 8 * (k : Int) = (s : Int) + 8 := by omega
        have g3 : (j : Int) + 40 + 8 * (k : Int) = (s2 : Int) := by omega
        have g4 : (j : Int) + 48 + 8 * (k : Int) = (s2 : Int) + 8 := by omega
        have hXn := HX.out.2.2.2
        have g5 : (s : Int) + 8 ≤ (c : Int) := by omega
        have g6 : (s2 : Int) + 8 ≤ (c : Int) := by omega
        have g7 : (s : Int) ≤ (c : Int) := by omega
        have g8 : (s2 : Int) ≤ (c : Int) := by omega
        have g9 : ¬ (c = s) := by omega
        have g10 : ¬ (c = s2) := by omega
        have g11 : (s : Int) ≤ 1000 := by omega
        have g12 : (s2 : Int) ≤ 1000 := by omega
        have g13 : (0 : Int) ≤ (s : Int) := by omega
        have g14 : (0 : Int) ≤ (s2 : Int) := by omega
        have dk : decide ((k : Int) < 3) = true := decide_eq_true (by omega)
        have dk2 : (k : Int) < 3 := by omega
        have c3 : wr.cell? ⟨w.heap.size + 1, 3 + k, none⟩ = some (.int .i64 (refF r k (k + 2))) := by
          have h := (hP.cell (offs (k + 2))).trans (cutCells_at id im (refF r k) (k + 2) (by omega))
          rwa [show offs (k + 2) = 3 + k by show k + 3 = 3 + k; omega] at h
        have c6 : wr.cell? ⟨w.heap.size + 1, 6 + k, none⟩ = some (.int .i64 (refF r k (k + 5))) := by
          have h := (hP.cell (offs (k + 5))).trans (cutCells_at id im (refF r k) (k + 5) (by omega))
          rwa [show offs (k + 5) = 6 + k by show k + 3 + 3 = 6 + k; omega] at h
        have z3 : wr.frozen? ⟨w.heap.size + 1, 3 + k, none⟩ = false := hP.frozen _
        have z6 : wr.frozen? ⟨w.heap.size + 1, 6 + k, none⟩ = false := hP.frozen _
        have hnext : Blk ((wr.setCell ⟨w.heap.size + 1, 3 + k, none⟩ (.int .i64 (refN r (k + 2)))).setCell ⟨w.heap.size + 1, 6 + k, none⟩ (.int .i64 (refN r (k + 5)))) (w.heap.size + 1) 44 (cutCells id im (refF r (k + 1))) := by
          have h1 := (hP.set_ (3 + k) (.int .i64 (refN r (k + 2)))).set_ (6 + k) (.int .i64 (refN r (k + 5)))
          rw [show 3 + k = offs (k + 2) by show 3 + k = k + 3; omega, show 6 + k = offs (k + 5) by show 6 + k = k + 3 + 3; omega, cutCells_set _ _ _ _ (by omega), cutCells_set _ _ _ _ (by omega), refF_next r k hlt] at h1
          rw [show 3 + k = offs (k + 2) by show 3 + k = k + 3; omega, show 6 + k = offs (k + 5) by show 6 + k = k + 3 + 3; omega]
          exact h1
        have hR2 := (hR.far (p := ⟨w.heap.size + 1, 3 + k, none⟩) (by simp) (.int .i64 (refN r (k + 2)))).far (p := ⟨w.heap.size + 1, 6 + k, none⟩) (by simp) (.int .i64 (refN r (k + 5)))
        have hB2 := (hBel.setCell (p := ⟨w.heap.size + 1, 3 + k, none⟩) (by simp) (.int .i64 (refN r (k + 2)))).setCell (p := ⟨w.heap.size + 1, 6 + k, none⟩) (by simp) (.int .i64 (refN r (k + 5)))
        have hBa := hBel.setCell (p := ⟨w.heap.size + 1, 3 + k, none⟩) (by simp) (.int .i64 (refN r (k + 2)))
        have HN := Lib.hid (And.intro hnext (And.intro hR2 (And.intro hB2 (And.intro hBel (And.intro hBa (And.intro hs hs2))))))
        clear hnext hR2 hB2 hBel hBa hP hR hs hs2 hXn
        go_wp2_with fail
        refine (HX.out.1 (k + 2) (by omega) s (by have := HN.out.2.2.2.2.2.1; omega) _ _ HN.out.2.2.2.1).mono ?_; rintro e w1 ⟨rfl, rfl⟩
        go_wp2_with fail
        refine (HX.out.1 (k + 5) (by omega) s2 (by have := HN.out.2.2.2.2.2.2; omega) _ _ HN.out.2.2.2.2.1).mono ?_; rintro e w1 ⟨rfl, rfl⟩
        go_wp2_with fail
        go_roundw
        case rel => exact ⟨k + 1, by omega, by go_num, HN.out.1, HN.out.2.1, HN.out.2.2.1⟩
        case measure => simp [intOf]; omega
      · obtain rfl : k = 3 := by omega
        have dk : decide (((3 : Nat) : Int) < 3) = false := by simp
        have hP2 : Blk wr (w.heap.size + 1) 44 #[.string id, .int .i64 0, .bool false, .int .i64 (refN r 2), .int .i64 (refN r 3), .int .i64 (refN r 4), .int .i64 (refN r 5), .int .i64 (refN r 6), .int .i64 (refN r 7), .string im, .int .i64 (refN r 1)] := by have h := hP; simpa [cutCells, refF] using h
        have cp : wr.cell? ⟨w.heap.size + 1, 1, none⟩ = some (.int .i64 0) := hP2.cell 1
        have cc : wr.cell? ⟨w.heap.size + 1, 2, none⟩ = some (.bool false) := hP2.cell 2
        have fp : wr.frozen? ⟨w.heap.size + 1, 1, none⟩ = false := hP2.frozen 1
        have fc : wr.frozen? ⟨w.heap.size + 1, 2, none⟩ = false := hP2.frozen 2
        have cb : wr.cell? ⟨b, off + (j + 64), none⟩ = some (.int .u8 (r.getD 64 0).toNat) := ((bcell hBel).1 b (off + (j + 64)) hb).trans HX.out.2.1
        have hnj := HX.out.2.2.2.1
        have hr64 := HX.out.2.2.1
        have g0 : (j : Int) + 64 < (n : Int) := by omega
        have g9 : ((j : Int) + 64).toNat = j + 64 := by omega
        have g8 : (0 : Int) ≤ (j : Int) + 64 := by omega
        have g7 : j + 64 < n := by omega
        have w4 : IntKind.i64.wrap ((j : Int) + 64) = (j : Int) + 64 := by rw [IntKind.wrap_i64]; omega
        obtain ⟨ha1, ha2⟩ := refN_I64 r 0 (by omega)
        have hy := (r.getD 64 0).toNat_lt
        obtain ⟨y64, hy64⟩ : ∃ y64, y64 = r.getD 64 0 := ⟨_, rfl⟩
        rw [← hy64] at cb hy
        have HY := Lib.hid hy64
        clear hy64
        have HPY : Hid (refPd id im r = (⟨id, refN r 0 - 1073741824, (y64.toNat : Int) == 1, refN r 2, refN r 3, refN r 4, refN r 5, refN r 6, refN r 7, im, refN r 1⟩ : Pd)) := by show _ = _; unfold refPd; rw [← HY.out]
        have HPB := Lib.hid hP2
        have HH := Lib.hid (And.intro hR hBel)
        have HR6 := Lib.hid hr64
        have HBX0 := Lib.hid ((hP2.set_ 1 (.int .i64 (refN r 0 - 1073741824))).set_ 2 (.bool ((y64.toNat : Int) == 1)))
        have HR2 := Lib.hid ((hR.far (p := ⟨w.heap.size + 1, 1, none⟩) (by simp) (.int .i64 (refN r 0 - 1073741824))).far (p := ⟨w.heap.size + 1, 2, none⟩) (by simp) (.bool ((y64.toNat : Int) == 1)))
        have HB2 := Lib.hid ((hBel.setCell (p := ⟨w.heap.size + 1, 1, none⟩) (by simp) (.int .i64 (refN r 0 - 1073741824))).setCell (p := ⟨w.heap.size + 1, 2, none⟩) (by simp) (.bool ((y64.toNat : Int) == 1)))
        clear hP hP2 hR hBel hr64 hnj
        rcases (show refN r 0 < 0 ∨ 2147483648 < refN r 0 ∨ (0 ≤ refN r 0 ∧ refN r 0 ≤ 2147483648) by omega) with hw | hw | ⟨hw1, hw2⟩
        · have e1 : decide (refN r 0 < 0) = true := decide_eq_true hw
          have HNO : Hid (refOk id im r = false) := by show _ = false; unfold refOk; rw [decide_eq_false (by omega : ¬ 0 ≤ refN r 0)]; rfl
          go_wp2_with (refine wl_store_blk rfl 44 (.tmp 2) (.tmp 116) rfl w.heap.size 44 zeroPod zeroPod rfl rfl HH.out.1 rfl infoPod zeroPod_one ?_; intro w5 hR5 hg5 hs5)
          have hl5 := hR5.cell
          exact bodyPost_ret (v := .tuple #[.agg zeroPod, .int .i64 0]) (by simp [results, Tryd.results38, go_sem, hl5]) rfl (Or.inr ⟨HNO.out, rfl, HH.out.2.grown hg5 HH.out.2.size (by intro k hk; cases hk; exact Nat.le_refl _)⟩)
        · have e1 : decide (refN r 0 < 0) = false := decide_eq_false (by omega)
          have e2 : decide (2147483648 < refN r 0) = true := decide_eq_true hw
          have HNO : Hid (refOk id im r = false) := by show _ = false; unfold refOk; rw [decide_eq_false (by omega : ¬ refN r 0 ≤ 2147483648)]; simp
          go_wp2_with (refine wl_store_blk rfl 44 (.tmp 2) (.tmp 116) rfl w.heap.size 44 zeroPod zeroPod rfl rfl HH.out.1 rfl infoPod zeroPod_one ?_; intro w5 hR5 hg5 hs5)
          have hl5 := hR5.cell
          exact bodyPost_ret (v := .tuple #[.agg zeroPod, .int .i64 0]) (by simp [results, Tryd.results38, go_sem, hl5]) rfl (Or.inr ⟨HNO.out, rfl, HH.out.2.grown hg5 HH.out.2.size (by intro k hk; cases hk; exact Nat.le_refl _)⟩)
        · have e1 : decide (refN r 0 < 0) = false := decide_eq_false (by omega)
          have e2 : decide (2147483648 < refN r 0) = false := decide_eq_false (by omega)
          by_cases hb1 : (1 : Int) < y64.toNat
          · have HNO : Hid (refOk id im r = false) := by show _ = false; unfold refOk; rw [← HY.out, decide_eq_false (by omega : ¬ y64.toNat ≤ 1)]; simp
            have e3 : decide ((1 : Int) < y64.toNat) = true := decide_eq_true hb1
            go_wp2_with (refine wl_store_blk rfl 44 (.tmp 2) (.tmp 116) rfl w.heap.size 44 zeroPod zeroPod rfl rfl HH.out.1 rfl infoPod zeroPod_one ?_; intro w5 hR5 hg5 hs5)
            have hl5 := hR5.cell
            exact bodyPost_ret (v := .tuple #[.agg zeroPod, .int .i64 0]) (by simp [results, Tryd.results38, go_sem, hl5]) rfl (Or.inr ⟨HNO.out, rfl, HH.out.2.grown hg5 HH.out.2.size (by intro k hk; cases hk; exact Nat.le_refl _)⟩)
          · have e3 : decide ((1 : Int) < y64.toNat) = false := decide_eq_false hb1
            have q0 : wr.cell? ⟨w.heap.size + 1, 0, none⟩ = some (.string id) := HPB.out.cell 0
            have q3 : wr.cell? ⟨w.heap.size + 1, 3, none⟩ = some (.int .i64 (refN r 2)) := HPB.out.cell 3
            have q4 : wr.cell? ⟨w.heap.size + 1, 4, none⟩ = some (.int .i64 (refN r 3)) := HPB.out.cell 4
            have q5 : wr.cell? ⟨w.heap.size + 1, 5, none⟩ = some (.int .i64 (refN r 4)) := HPB.out.cell 5
            have q6 : wr.cell? ⟨w.heap.size + 1, 6, none⟩ = some (.int .i64 (refN r 5)) := HPB.out.cell 6
            have q7 : wr.cell? ⟨w.heap.size + 1, 7, none⟩ = some (.int .i64 (refN r 6)) := HPB.out.cell 7
            have q8 : wr.cell? ⟨w.heap.size + 1, 8, none⟩ = some (.int .i64 (refN r 7)) := HPB.out.cell 8
            have q9 : wr.cell? ⟨w.heap.size + 1, 9, none⟩ = some (.string im) := HPB.out.cell 9
            have q10 : wr.cell? ⟨w.heap.size + 1, 10, none⟩ = some (.int .i64 (refN r 1)) := HPB.out.cell 10
            have hr6 := HR6.out
            have hwf : (⟨id, refN r 0 - 1073741824, (y64.toNat : Int) == 1, refN r 2, refN r 3, refN r 4, refN r 5, refN r 6, refN r 7, im, refN r 1⟩ : Pd).Wf := ⟨by show I64 (refN r 0 - 1073741824); unfold I64; omega, refN_I64 r 2 (by omega), refN_I64 r 3 (by omega), refN_I64 r 4 (by omega), refN_I64 r 5 (by omega), refN_I64 r 6 (by omega), refN_I64 r 7 (by omega), refN_I64 r 1 (by omega), HID.out.1, HID.out.2⟩
            have HWF := Lib.hid hwf
            clear hwf hr6
            have HBX : Hid (Blk ((wr.setCell ⟨w.heap.size + 1, 1, none⟩ (.int .i64 (refN r 0 - 1073741824))).setCell ⟨w.heap.size + 1, 2, none⟩ (.bool ((y64.toNat : Int) == 1))) (w.heap.size + 1) 44 (⟨id, refN r 0 - 1073741824, (y64.toNat : Int) == 1, refN r 2, refN r 3, refN r 4, refN r 5, refN r 6, refN r 7, im, refN r 1⟩ : Pd).cells) := Lib.hid HBX0.out
            cases hrt : (⟨id, refN r 0 - 1073741824, (y64.toNat : Int) == 1, refN r 2, refN r 3, refN r 4, refN r 5, refN r 6, refN r 7, im, refN r 1⟩ : Pd).right
            · have HNO : Hid (refOk id im r = false) := by show _ = false; unfold refOk; rw [HPY.out, hrt]; simp
              have HRT := Lib.hid hrt
              clear hrt
              go_wp2_with fail
              refine (refRight_any (⟨id, refN r 0 - 1073741824, (y64.toNat : Int) == 1, refN r 2, refN r 3, refN r 4, refN r 5, refN r 6, refN r 7, im, refN r 1⟩ : Pd) _ HWF.out).mono ?_; rintro e w6 ⟨rfl, hb6⟩
              rw [HRT.out]
              have HR3 := Lib.hid (HR2.out.belowAll hb6)
              have HB3 := Lib.hid (HB2.out.trans (hb6.mono HB2.out.size))
              clear hb6
              go_wp2_with (refine wl_store_blk rfl 44 (.tmp 2) (.tmp 130) rfl w.heap.size 44 zeroPod zeroPod rfl rfl HR3.out rfl infoPod zeroPod_one ?_; intro w5 hR5 hg5 hs5)
              have hl5 := hR5.cell
              exact bodyPost_ret (v := .tuple #[.agg zeroPod, .int .i64 0]) (by simp [results, Tryd.results38, go_sem, hl5]) rfl (Or.inr ⟨HNO.out, rfl, HB3.out.grown hg5 HB3.out.size (by intro k hk; cases hk; exact Nat.le_refl _)⟩)
            · have HYES : Hid (refOk id im r = true) := by show _ = true; unfold refOk; rw [HPY.out, hrt, ← HY.out, decide_eq_true hw1, decide_eq_true hw2, decide_eq_true (by omega : y64.toNat ≤ 1)]; rfl
              have HRT := Lib.hid hrt
              clear hrt
              go_wp2_with fail
              refine (refRight_any (⟨id, refN r 0 - 1073741824, (y64.toNat : Int) == 1, refN r 2, refN r 3, refN r 4, refN r 5, refN r 6, refN r 7, im, refN r 1⟩ : Pd) _ HWF.out).mono ?_; rintro e w6 ⟨rfl, hb6⟩
              rw [HRT.out]
              have HR3 := Lib.hid (HR2.out.belowAll hb6)
              have HB3 := Lib.hid (HB2.out.trans (hb6.mono HB2.out.size))
              have HBX6 := Lib.hid (HBX.out.belowAll hb6)
              have lc6 : ∀ i, w6.cell? ⟨w.heap.size + 1, i, none⟩ = (#[.string id, .int .i64 (refN r 0 - 1073741824), .bool ((y64.toNat : Int) == 1), .int .i64 (refN r 2), .int .i64 (refN r 3), .int .i64 (refN r 4), .int .i64 (refN r 5), .int .i64 (refN r 6), .int .i64 (refN r 7), .string im, .int .i64 (refN r 1)] : Array Value)[i]? := HBX6.out.cell
              clear hb6 q0 q3 q4 q5 q6 q7 q8 q9 q10 cp cc fp fc cb
              go_wp2_with (refine wl_store_blk rfl 44 (.tmp 2) (.tmp 131) rfl w.heap.size 44 zeroPod #[.string id, .int .i64 (refN r 0 - 1073741824), .bool ((y64.toNat : Int) == 1), .int .i64 (refN r 2), .int .i64 (refN r 3), .int .i64 (refN r 4), .int .i64 (refN r 5), .int .i64 (refN r 6), .int .i64 (refN r 7), .string im, .int .i64 (refN r 1)] rfl rfl HR3.out rfl infoPod (by simp [Value.oneCell']) ?_; intro w5 hR5 hg5 hs5)
              have hl5 : ∀ i, w5.cell? ⟨w.heap.size, i, none⟩ = (#[.string id, .int .i64 (refN r 0 - 1073741824), .bool ((y64.toNat : Int) == 1), .int .i64 (refN r 2), .int .i64 (refN r 3), .int .i64 (refN r 4), .int .i64 (refN r 5), .int .i64 (refN r 6), .int .i64 (refN r 7), .string im, .int .i64 (refN r 1)] : Array Value)[i]? := hR5.cell
              exact bodyPost_ret (v := .tuple #[.agg #[.string id, .int .i64 (refN r 0 - 1073741824), .bool ((y64.toNat : Int) == 1), .int .i64 (refN r 2), .int .i64 (refN r 3), .int .i64 (refN r 4), .int .i64 (refN r 5), .int .i64 (refN r 6), .int .i64 (refN r 7), .string im, .int .i64 (refN r 1)], .int .i64 ((j : Int) + 65)]) (by simp [results, Tryd.results38, go_sem, hl5]) rfl (Or.inl ⟨HYES.out, by rw [HPY.out], HB3.out.grown hg5 HB3.out.size (by intro k hk; cases hk; exact Nat.le_refl _)⟩)
end Go.Proofs.YtakgblgbfbpmoaaDoor
