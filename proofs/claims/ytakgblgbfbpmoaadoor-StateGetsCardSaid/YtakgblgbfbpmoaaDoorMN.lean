/- Several texts in one: 'n<<8 | c': eight bits more. pod.Cut: enough bytes. pod.Cut in one function of the bytes. -/
import Derived.Laws.BitsAllLaws
import Derived.Outline
import Derived.Deep.RegionLaw
import Derived.Test.YtakgblgbfbpmoaaDoorMA
import Derived.Test.YtakgblgbfbpmoaaDoorMM
namespace Go.Proofs.YtakgblgbfbpmoaaDoor
open Go.RowKit

theorem or_step (X : Int) (y : Nat) (hy : y < 256) : bits .or .i64 (wrap64 (IntKind.i64.wrap X * 256)) (y : Int) = IntKind.i64.wrap (256 * X + y) := by
  have ha : (BitVec.ofInt 64 (wrap64 (IntKind.i64.wrap X * 256))).toNat = ((256 * X) % 18446744073709551616).toNat := by
    rw [BitVec.toNat_ofInt]
    unfold wrap64
    rw [IntKind.wrap_i64]
    omega
  have hb : (BitVec.ofInt 64 (y : Int)).toNat = y := by
    rw [BitVec.toNat_ofInt]
    omega
  have hor : (BitVec.ofInt 64 (wrap64 (IntKind.i64.wrap X * 256)) ||| BitVec.ofInt 64 (y : Int)).toNat = ((256 * X) % 18446744073709551616).toNat + y := by
    rw [BitVec.toNat_or, ha, hb]
    exact nat_join 8 _ _ (by omega) (by omega)
  show IntKind.i64.wrap (((BitVec.ofInt 64 (wrap64 (IntKind.i64.wrap X * 256)) ||| BitVec.ofInt 64 (y : Int)).toNat : Nat) : Int) = _
  rw [hor, IntKind.wrap_i64, IntKind.wrap_i64]
  omega
end Go.Proofs.YtakgblgbfbpmoaaDoor

namespace Go.Proofs.YtakgblgbfbpmoaaDoor
open Go.RowKit

/-- the first j bytes of the k-th number, as an int64 -/
def accN (r : List UInt8) (k j : Nat) : Int := IntKind.i64.wrap (beTo (r.drop (8 * k)) j)
/-- the first k numbers are read -/
def gotTo (r : List UInt8) (k : Nat) : Nat → Int := fun i => if i < k then accN r i 8 else 0

theorem accN_zero (r : List UInt8) (k : Nat) : accN r k 0 = 0 := by unfold accN beTo; rfl
theorem upd_start (r : List UInt8) (k : Nat) : upd (gotTo r k) k (accN r k 0) = gotTo r k := by
  funext i
  unfold upd
  split
  · rename_i h; subst h; rw [accN_zero]; unfold gotTo; rw [if_neg (by omega)]
  · rfl
theorem upd_end (r : List UInt8) (k : Nat) : upd (gotTo r k) k (accN r k 8) = gotTo r (k + 1) := by
  funext i
  unfold upd gotTo
  split
  · rename_i h; subst h; rw [if_pos (by omega)]
  · by_cases h : i < k
    · rw [if_pos h, if_pos (by omega)]
    · rw [if_neg h, if_neg (by omega)]
theorem upd_upd (f : Nat → Int) (k : Nat) (a b : Int) : upd (upd f k a) k b = upd f k b := by
  funext i; unfold upd; split <;> rfl
theorem upd_at (f : Nat → Int) (k : Nat) (a : Int) : upd f k a k = a := by unfold upd; simp

/-- what holds of memory while the numbers are read -/
structure CI (w W : World) (id im : ByteArray) (f : Nat → Int) : Prop where
  res : Blk W w.heap.size 44 zeroPod
  box : Blk W (w.heap.size + 1) 44 (cutCells id im f)
  ptr : Blk W (w.heap.size + 1 + 1) 88 (numPtrs (w.heap.size + 1))
  bel : Below w.heap.size w W
theorem CI.set {w W : World} {id im : ByteArray} {f : Nat → Int} (h : CI w W id im f) (k : Nat) (hk : k < 8) (v : Int) : CI w (W.setCell ⟨w.heap.size + 1, offs k, none⟩ (.int .i64 v)) id im (upd f k v) :=
  ⟨h.res.far (by simp) _, by rw [← cutCells_set id im f k hk v]; exact h.box.set_ _ _, h.ptr.far (by simp) _, h.bel.setCell (by simp) _⟩
theorem CI.num {w W : World} {id im : ByteArray} {f : Nat → Int} (h : CI w W id im f) (k : Nat) (hk : k < 8) : W.cell? ⟨w.heap.size + 1, offs k, none⟩ = some (.int .i64 (f k)) := (h.box.cell _).trans (cutCells_at id im f k hk)
theorem CI.frozen {w W : World} {id im : ByteArray} {f : Nat → Int} (h : CI w W id im f) (k : Nat) : W.frozen? ⟨w.heap.size + 1, offs k, none⟩ = false := h.box.frozen _
theorem CI.at_ {w W : World} {id im : ByteArray} {f : Nat → Int} (h : CI w W id im f) (k : Nat) (hk : k < 8) : W.cell? ⟨w.heap.size + 1 + 1, k, none⟩ = some (.pointer (some ⟨w.heap.size + 1, offs k, none⟩)) := (h.ptr.cell _).trans (ptr_at _ _ hk)

/-- the pod that the bytes tell -/
def cutPdY (id im : ByteArray) (r : List UInt8) (y : UInt8) : Pd := ⟨id, accN r 0 8 - 1073741824, (y.toNat : Int) == 1, accN r 2 8, accN r 3 8, accN r 4 8, accN r 5 8, accN r 6 8, accN r 7 8, im, accN r 1 8⟩
def cutPd (id im : ByteArray) (r : List UInt8) : Pd := cutPdY id im r (r.getD 64 0)
def notWide (r : List UInt8) : Bool := decide (0 ≤ accN r 0 8) && decide (accN r 0 8 ≤ 2147483648)
def cutOk (id im : ByteArray) (r : List UInt8) : Bool := notWide r && (decide ((r.getD 64 0).toNat ≤ 1) && (cutPd id im r).right)
/-- what Cut answers where there are bytes enough -/
def CutPost (id im : ByteArray) (r : List UInt8) (w : World) (e : Ending) (w' : World) : Prop :=
  (cutOk id im r = true ∧ (∃ A c, e = .returned (.tuple #[.agg (cutPd id im r).cells, .slice A (r.drop 65).length c, .int .i64 0]) ∧ Own w' w.heap.size 5 encB (.slice A (r.drop 65).length c) (r.drop 65)) ∧ Below w.heap.size w w') ∨
  (cutOk id im r = false ∧ e = .returned (.tuple #[.agg zeroPod, .slice none 0 0, .int .i64 3]) ∧ Below w.heap.size w w')
theorem accN_I64 (r : List UInt8) (k j : Nat) : I64 (accN r k j) := by unfold accN I64; rw [IntKind.wrap_i64]; omega

set_option maxHeartbeats 4000000 in
theorem cut_long (A : Option Addr) (c : Nat) (x y : UInt8) (l m : List UInt8) (w : World) (hr : Rds w encB A (x :: l)) (hc : (x :: l).length ≤ c) (hm : c ≤ 9223372036854775807) (hx : x.toNat ≤ l.length) (hl : l.drop x.toNat = y :: m) (hy : y.toNat ≤ m.length) (r : List UInt8) (hd2 : m.drop y.toNat = r) (hs : 64 < r.length) (hbd : r.length ≤ 140737488355328)
    (id im : ByteArray) (hid : str (l.take x.toNat) = id) (him : str (m.take y.toNat) = im) :
    Calls Tryd.prog 50 #[.slice A (x :: l).length c] w (CutPost id im r w) := by
  have hids : id.size ≤ 9223372036854775807 := by rw [← hid, str_size]; have := x.toNat_lt; have := List.length_take_le x.toNat l; omega
  have hims : im.size ≤ 9223372036854775807 := by rw [← him, str_size]; have := y.toNat_lt; have := List.length_take_le y.toNat m; omega
  have HI := Lib.hid hid
  have HM := Lib.hid him
  clear hid him
  have HR0 := Lib.hid hr
  have H := Lib.hid ((hr.alloc (.cells zeroPod 44)).alloc (.cells zeroPod 44))
  clear hr
  have H2 := Lib.hid hl
  have HD := Lib.hid hd2
  clear hl hd2
  go_enter Tryd.func50, Tryd.ntmps50
  go_wp2_with fail
  refine (text_yes x l A c _ H.out hc hm hx).mono ?_; rintro e w1 ⟨A1, c1, rfl, ht1, hc1, hm1, rfl⟩
  have hr1 := ht1 _ H.out
  rw [H2.out] at ht1 hr1 hc1 ⊢
  rw [HI.out]
  have H3 := Lib.hid hr1.drew
  have HT1 := Lib.hid (ht1 _ HR0.out)
  clear hr1 ht1 H H2 HR0
  go_wp2_with fail
  refine (text_yes y m A1 c1 _ H3.out hc1 hm1 hy).mono ?_; rintro e w1 ⟨A2, c2, rfl, ht2, hc2, hm2, rfl⟩
  have hr2 := ht2 _ H3.out
  rw [HD.out] at ht2 hr2 hc2 ⊢
  rw [HM.out]
  have H4 := Lib.hid (ht2 _ HT1.out)
  clear hr2 ht2 H3 HD HT1
  clear HI HM
  go_wp2_with fail
  refine (numbers_any _ _).mono ?_; rintro e w4 ⟨rfl, hP, hb4, hs4⟩
  have hR : Blk w4 w.heap.size 44 zeroPod := (((Blk.new w 44 zeroPod).alloc (.cells zeroPod 44)).drew.drew).belowAll hb4
  have hQ : Blk w4 (w.heap.size + 1) 44 zeroPod := by
    have := (Blk.new (w.alloc (.cells zeroPod 44)) 44 zeroPod).drew.drew.belowAll hb4
    simpa using this
  have hB : Below w.heap.size w w4 := ((((Below.refl _ _).alloc (Nat.le_refl _) (.cells zeroPod 44)).alloc (by simp) (.cells zeroPod 44)).drew.drew).trans (hb4.mono (by simp; omega))
  have hP' : Blk w4 (w.heap.size + 2) 88 (numPtrs (w.heap.size + 1)) := by simpa using hP
  have hle : (64 : Int) < (r.length : Int) := by omega
  have hd : decide ((r.length : Int) ≤ 64) = false := decide_eq_false (by omega)
  have k0 : w4.cell? ⟨w.heap.size + 1, 0, none⟩ = some (.string ⟨#[]⟩) := hQ.cell 0
  have k9 : w4.cell? ⟨w.heap.size + 1, 9, none⟩ = some (.string ⟨#[]⟩) := hQ.cell 9
  have f0 : w4.frozen? ⟨w.heap.size + 1, 0, none⟩ = false := hQ.frozen 0
  have f9 : w4.frozen? ⟨w.heap.size + 1, 9, none⟩ = false := hQ.frozen 9
  have hQ2 : Blk ((w4.setCell ⟨w.heap.size + 1, 0, none⟩ (.string id)).setCell ⟨w.heap.size + 1, 9, none⟩ (.string im)) (w.heap.size + 1) 44 (cutCells id im (gotTo r 0)) := (hQ.set_ 0 _).set_ 9 _
  have hzz : w.heap.size + 2 < w4.heap.size := by have := hs4; simp at this; omega
  have hR2 : Blk ((w4.setCell ⟨w.heap.size + 1, 0, none⟩ (.string id)).setCell ⟨w.heap.size + 1, 9, none⟩ (.string im)) w.heap.size 44 zeroPod := (hR.far (by simp) _).far (by simp) _
  have hP2 : Blk ((w4.setCell ⟨w.heap.size + 1, 0, none⟩ (.string id)).setCell ⟨w.heap.size + 1, 9, none⟩ (.string im)) (w.heap.size + 2) 88 (numPtrs (w.heap.size + 1)) := (hP'.far (by simp) _).far (by simp) _
  have hB2 := (hB.setCell (p := ⟨w.heap.size + 1, 0, none⟩) (by simp) (.string id)).setCell (p := ⟨w.heap.size + 1, 9, none⟩) (by simp) (.string im)
  have HCI := Lib.hid (CI.mk hR2 hQ2 hP2 hB2)
  obtain ⟨b, off, rfl, hb, hcell⟩ := H4.out (by intro e; subst e; simp at hs)
  have HB := Lib.hid hcell
  clear hR2 hQ2 hP2 hB2 hR hQ hB hP hP' hb4 H4 hcell
  go_wp2_with fail
  go_loopw [51] (fun i wr => ∃ k : Nat, k ≤ 8 ∧ i = .int .i64 k ∧ CI w wr id im (gotTo r k)) (fun i _ => 8 - (intOf i).toNat)
  case atStart => exact ⟨0, by omega, rfl, HCI.out⟩
  case round =>
    clear HCI k0 k9 f0 f9
    obtain ⟨k, hk, rfl, hci⟩ := hrel
    by_cases hlt : k < 8
    · have cp := hci.at_ k hlt
      have dk : decide ((k : Int) < 8) = true := decide_eq_true (by omega)
      have g1 : (8 * (k : Int)) + 8 ≤ (c2 : Int) := by omega
      have g2 : ¬ c2 = 8 * k := by omega
      have g3 : (8 * (k : Int)).toNat = 8 * k := by omega
      have g4 : (8 * (k : Int) + 8).toNat = 8 * k + 8 := by omega
      have H := Lib.hid hci
      clear hci
      go_wp2_with fail
      go_loopw [64] (fun i wr => ∃ j : Nat, j ≤ 8 ∧ i = .int .i64 j ∧ CI w wr id im (upd (gotTo r k) k (accN r k j))) (fun i _ => 8 - (intOf i).toNat)
      case atStart => exact ⟨0, by omega, rfl, by rw [upd_start]; exact H.out⟩
      case round =>
        clear H cp
        obtain ⟨j, hj, rfl, hci⟩ := hrel
        by_cases hlj : j < 8
        · have dj : decide ((j : Int) < 8) = true := decide_eq_true (by omega)
          have cb : wr.cell? ⟨b, off + 8 * k + j, none⟩ = some (.int .u8 ((r.drop (8 * k)).getD j 0).toNat) := by
            rw [Nat.add_assoc]
            refine (hci.bel.cell (p := ⟨b, off + (8 * k + j), none⟩) hb).trans (HB.out (8 * k + j) _ ?_)
            rw [encB_all]
            simp [List.getD, List.getElem?_drop, List.getElem?_eq_getElem (show 8 * k + j < r.length by omega)]
          have hy := ((r.drop (8 * k)).getD j 0).toNat_lt
          have cn := hci.num k hlt
          rw [upd_at] at cn
          have fn := hci.frozen k
          have H := Lib.hid hci
          have hst : beTo (r.drop (8 * k)) (j + 1) = 256 * beTo (r.drop (8 * k)) j + (((r.drop (8 * k)).getD j 0).toNat : Int) := rfl
          generalize (r.drop (8 * k)).getD j 0 = y at *
          have HS := Lib.hid hst
          clear hci hst
          have hacc : I64 (accN r k j) := by unfold accN I64; rw [IntKind.wrap_i64]; omega
          obtain ⟨ha1, ha2⟩ := hacc
          have ho : bits .or .i64 (wrap64 (accN r k j * 256)) (y.toNat : Int) = accN r k (j + 1) := by
            unfold accN
            rw [or_step _ _ (by omega), HS.out]
          have HO := Lib.hid ho
          clear ho
          go_wp2_with fail
          go_roundw
          case rel => exact ⟨j + 1, by omega, by go_num, by rw [HO.out]; have := H.out.set k hlt (accN r k (j + 1)); rwa [upd_upd] at this⟩
          case measure => simp [intOf]; omega
        · obtain rfl : j = 8 := by omega
          rw [upd_end] at hci
          have H := Lib.hid hci
          clear hci
          go_wp2_with fail
          go_roundw
          case rel => exact ⟨k + 1, by omega, by go_num, H.out⟩
          case measure => simp [intOf]; omega
    · obtain rfl : k = 8 := by omega
      have cp : wr.cell? ⟨w.heap.size + 1, 1, none⟩ = some (.int .i64 (accN r 0 8)) := hci.box.cell 1
      have cc : wr.cell? ⟨w.heap.size + 1, 2, none⟩ = some (.bool false) := hci.box.cell 2
      have fp : wr.frozen? ⟨w.heap.size + 1, 1, none⟩ = false := hci.box.frozen 1
      have fc : wr.frozen? ⟨w.heap.size + 1, 2, none⟩ = false := hci.box.frozen 2
      have cb : wr.cell? ⟨b, off + 64, none⟩ = some (.int .u8 (r.getD 64 0).toNat) := by
        refine (hci.bel.cell (p := ⟨b, off + 64, none⟩) hb).trans (HB.out 64 _ ?_)
        rw [encB_all]
        simp [List.getD, List.getElem?_eq_getElem (show 64 < r.length by omega)]
      have hacc := accN_I64 r 0 8
      obtain ⟨ha1, ha2⟩ := hacc
      have hy := (r.getD 64 0).toNat_lt
      have g1 : (64 : Int) ≤ (c2 : Int) := by omega
      have g2 : ¬ c2 = 64 := by omega
      have g5 : (0 : Int) < (r.length : Int) - 64 := by omega
      have g6 : 0 < r.length - 64 := by omega
      have g7 : (0 : Int) < ((r.length - 64 : Nat) : Int) := by omega
      have hz : w.heap.size + 1 < wr.heap.size := hci.box.lt
      have H := Lib.hid hci
      clear hci
      have isub : IntKind.i64.wrap (accN r 0 8 - 1073741824) = IntKind.i64.wrap (accN r 0 8 - 1073741824) := rfl
      clear isub
      obtain ⟨y64, hy64⟩ : ∃ y64, y64 = r.getD 64 0 := ⟨_, rfl⟩
      rw [← hy64] at cb hy
      have HY := Lib.hid hy64
      clear hy64
      rcases (show accN r 0 8 < 0 ∨ 2147483648 < accN r 0 8 ∨ (0 ≤ accN r 0 8 ∧ accN r 0 8 ≤ 2147483648) by omega) with hw | hw | ⟨hw1, hw2⟩
      · have e1 : decide (accN r 0 8 < 0) = true := decide_eq_true hw
        have HNO : Hid (cutOk id im r = false) := by show _ = false; unfold cutOk notWide; simp; omega
        have HF : Hid (Blk ((wr.setCell ⟨w.heap.size + 1, 1, none⟩ (.int .i64 (wrap64 (accN r 0 8 - 1073741824)))).setCell ⟨w.heap.size + 1, 2, none⟩ (.bool ((y64.toNat : Int) == 1))).drew w.heap.size 44 zeroPod ∧ Below w.heap.size w ((wr.setCell ⟨w.heap.size + 1, 1, none⟩ (.int .i64 (wrap64 (accN r 0 8 - 1073741824)))).setCell ⟨w.heap.size + 1, 2, none⟩ (.bool ((y64.toNat : Int) == 1))).drew ∧ True) := ⟨((H.out.res.far (by simp) _).far (by simp) _).drew, ((H.out.bel.setCell (by simp) _).setCell (by simp) _).drew, trivial⟩
        go_wp2_with fail
        go_region
        go_wp2_with (refine wl_store_blk rfl 44 (.tmp 2) (.tmp 113) rfl w.heap.size 44 zeroPod zeroPod rfl rfl HF.out.1 rfl infoPod zeroPod_one ?_; intro w5 hR5 hg5 hs5)
        have hl5 := hR5.cell
        exact bodyPost_ret (v := .tuple #[.agg zeroPod, .slice none 0 0, .int .i64 3]) (by simp [results, Tryd.results50, go_sem, hl5]) rfl (Or.inr ⟨HNO.out, rfl, HF.out.2.1.grown hg5 HF.out.2.1.size (by intro k hk; cases hk; exact Nat.le_refl _)⟩)
      · have e1 : decide (accN r 0 8 < 0) = false := decide_eq_false (by omega)
        have e2 : decide (2147483648 < accN r 0 8) = true := decide_eq_true hw
        have HNO : Hid (cutOk id im r = false) := by show _ = false; unfold cutOk notWide; simp; omega
        have HF : Hid (Blk ((wr.setCell ⟨w.heap.size + 1, 1, none⟩ (.int .i64 (accN r 0 8 - 1073741824))).setCell ⟨w.heap.size + 1, 2, none⟩ (.bool ((y64.toNat : Int) == 1))).drew w.heap.size 44 zeroPod ∧ Below w.heap.size w ((wr.setCell ⟨w.heap.size + 1, 1, none⟩ (.int .i64 (accN r 0 8 - 1073741824))).setCell ⟨w.heap.size + 1, 2, none⟩ (.bool ((y64.toNat : Int) == 1))).drew ∧ True) := ⟨((H.out.res.far (by simp) _).far (by simp) _).drew, ((H.out.bel.setCell (by simp) _).setCell (by simp) _).drew, trivial⟩
        go_wp2_with fail
        go_region
        go_wp2_with (refine wl_store_blk rfl 44 (.tmp 2) (.tmp 113) rfl w.heap.size 44 zeroPod zeroPod rfl rfl HF.out.1 rfl infoPod zeroPod_one ?_; intro w5 hR5 hg5 hs5)
        have hl5 := hR5.cell
        exact bodyPost_ret (v := .tuple #[.agg zeroPod, .slice none 0 0, .int .i64 3]) (by simp [results, Tryd.results50, go_sem, hl5]) rfl (Or.inr ⟨HNO.out, rfl, HF.out.2.1.grown hg5 HF.out.2.1.size (by intro k hk; cases hk; exact Nat.le_refl _)⟩)
      · have e1 : decide (accN r 0 8 < 0) = false := decide_eq_false (by omega)
        have e2 : decide (2147483648 < accN r 0 8) = false := decide_eq_false (by omega)
        have HF : Hid (Blk ((wr.setCell ⟨w.heap.size + 1, 1, none⟩ (.int .i64 (accN r 0 8 - 1073741824))).setCell ⟨w.heap.size + 1, 2, none⟩ (.bool ((y64.toNat : Int) == 1))).drew w.heap.size 44 zeroPod ∧ Below w.heap.size w ((wr.setCell ⟨w.heap.size + 1, 1, none⟩ (.int .i64 (accN r 0 8 - 1073741824))).setCell ⟨w.heap.size + 1, 2, none⟩ (.bool ((y64.toNat : Int) == 1))).drew ∧ True) := ⟨((H.out.res.far (by simp) _).far (by simp) _).drew, ((H.out.bel.setCell (by simp) _).setCell (by simp) _).drew, trivial⟩
        have HBX : Hid (Blk ((wr.setCell ⟨w.heap.size + 1, 1, none⟩ (.int .i64 (accN r 0 8 - 1073741824))).setCell ⟨w.heap.size + 1, 2, none⟩ (.bool ((y64.toNat : Int) == 1))).drew (w.heap.size + 1) 44 (cutPdY id im r y64).cells) := by
          have := ((H.out.box.set_ 1 (.int .i64 (accN r 0 8 - 1073741824))).set_ 2 (.bool ((y64.toNat : Int) == 1))).drew
          exact this
        have hwf : (cutPdY id im r y64).Wf := ⟨by show I64 (accN r 0 8 - 1073741824); unfold I64; omega, accN_I64 _ _ _, accN_I64 _ _ _, accN_I64 _ _ _, accN_I64 _ _ _, accN_I64 _ _ _, accN_I64 _ _ _, accN_I64 _ _ _, hids, hims⟩
        by_cases hb1 : (1 : Int) < y64.toNat
        · have HNO : Hid (cutOk id im r = false) := by show _ = false; unfold cutOk; rw [← HY.out, decide_eq_false (by omega : ¬ y64.toNat ≤ 1)]; simp
          have e3 : decide ((1 : Int) < y64.toNat) = true := decide_eq_true hb1
          go_wp2_with fail
          go_region
          go_wp2_with (refine wl_store_blk rfl 44 (.tmp 2) (.tmp 113) rfl w.heap.size 44 zeroPod zeroPod rfl rfl HF.out.1 rfl infoPod zeroPod_one ?_; intro w5 hR5 hg5 hs5)
          have hl5 := hR5.cell
          exact bodyPost_ret (v := .tuple #[.agg zeroPod, .slice none 0 0, .int .i64 3]) (by simp [results, Tryd.results50, go_sem, hl5]) rfl (Or.inr ⟨HNO.out, rfl, HF.out.2.1.grown hg5 HF.out.2.1.size (by intro k hk; cases hk; exact Nat.le_refl _)⟩)
        · have e3 : decide ((1 : Int) < y64.toNat) = false := decide_eq_false hb1
          have q0 : wr.cell? ⟨w.heap.size + 1, 0, none⟩ = some (.string id) := H.out.box.cell 0
          have q3 : wr.cell? ⟨w.heap.size + 1, 3, none⟩ = some (.int .i64 (accN r 2 8)) := H.out.box.cell 3
          have q4 : wr.cell? ⟨w.heap.size + 1, 4, none⟩ = some (.int .i64 (accN r 3 8)) := H.out.box.cell 4
          have q5 : wr.cell? ⟨w.heap.size + 1, 5, none⟩ = some (.int .i64 (accN r 4 8)) := H.out.box.cell 5
          have q6 : wr.cell? ⟨w.heap.size + 1, 6, none⟩ = some (.int .i64 (accN r 5 8)) := H.out.box.cell 6
          have q7 : wr.cell? ⟨w.heap.size + 1, 7, none⟩ = some (.int .i64 (accN r 6 8)) := H.out.box.cell 7
          have q8 : wr.cell? ⟨w.heap.size + 1, 8, none⟩ = some (.int .i64 (accN r 7 8)) := H.out.box.cell 8
          have q9 : wr.cell? ⟨w.heap.size + 1, 9, none⟩ = some (.string im) := H.out.box.cell 9
          have q10 : wr.cell? ⟨w.heap.size + 1, 10, none⟩ = some (.int .i64 (accN r 1 8)) := H.out.box.cell 10
          cases hrt : (cutPdY id im r y64).right
          · have HNO : Hid (cutOk id im r = false) := by show _ = false; unfold cutOk cutPd; rw [← HY.out, hrt]; simp
            have HRT := Lib.hid hrt
            clear hrt
            go_wp2_with fail
            go_region
            go_wp2_with fail
            refine (right_any (cutPdY id im r y64) _ hwf).mono ?_; rintro e w6 ⟨rfl, hb6⟩
            rw [HRT.out]
            have HF2 : Hid (Blk w6 w.heap.size 44 zeroPod ∧ Below w.heap.size w w6) := ⟨HF.out.1.belowAll hb6, HF.out.2.1.trans (hb6.mono HF.out.2.1.size)⟩
            clear hb6 HBX HF
            go_wp2_with (refine wl_store_blk rfl 44 (.tmp 2) (.tmp 113) rfl w.heap.size 44 zeroPod zeroPod rfl rfl HF2.out.1 rfl infoPod zeroPod_one ?_; intro w5 hR5 hg5 hs5)
            have hl5 := hR5.cell
            exact bodyPost_ret (v := .tuple #[.agg zeroPod, .slice none 0 0, .int .i64 3]) (by simp [results, Tryd.results50, go_sem, hl5]) rfl (Or.inr ⟨HNO.out, rfl, HF2.out.2.grown hg5 HF2.out.2.size (by intro k hk; cases hk; exact Nat.le_refl _)⟩)
          · have HYES : Hid (cutOk id im r = true) := by show _ = true; unfold cutOk cutPd notWide; rw [← HY.out, hrt, decide_eq_true hw1, decide_eq_true hw2, decide_eq_true (by omega : y64.toNat ≤ 1)]; rfl
            have HRT := Lib.hid hrt
            clear hrt
            go_wp2_with fail
            go_region
            go_wp2_with fail
            refine (right_any (cutPdY id im r y64) _ hwf).mono ?_; rintro e w6 ⟨rfl, hb6⟩
            rw [HRT.out]
            have HF2 : Hid (Blk w6 w.heap.size 44 zeroPod ∧ Below w.heap.size w w6 ∧ Blk w6 (w.heap.size + 1) 44 (cutPdY id im r y64).cells) := ⟨HF.out.1.belowAll hb6, HF.out.2.1.trans (hb6.mono HF.out.2.1.size), HBX.out.belowAll hb6⟩
            clear hb6 HBX HF q0 q3 q4 q5 q6 q7 q8 q9 q10 cp cc fp fc cb
            have hz6 : w.heap.size + 1 < w6.heap.size := HF2.out.2.2.lt
            have lc6 : ∀ i, w6.cell? ⟨w.heap.size + 1, i, none⟩ = (cutPdY id im r y64).cells[i]? := HF2.out.2.2.cell
            have hrest : Rds w encB (some ⟨b, off, none⟩) r := fun _ => ⟨b, off, rfl, hb, HB.out⟩
            have hrest2 : Rds w encB (if c2 - 64 = 1 then some ⟨b, off + 64, none⟩ else some ⟨b, off + 64 + 1, none⟩) (r.drop 65) := by
              have h1 := hrest.drop 65 c2 hc2
              intro hne
              have hlen : 65 < r.length := by
                rcases Nat.lt_or_ge 65 r.length with h | h
                · exact h
                · rw [List.drop_eq_nil_of_le h] at hne; exact absurd rfl hne
              rw [if_neg (by omega)] at h1
              rw [if_neg (by omega)]
              have := h1 hne
              simpa [add_mk] using this
            have hdl : (r.drop 65).length = r.length - 64 - 1 := by rw [List.length_drop]; omega
            have hlen : (r.drop 65).length ≤ 140737488355328 := by rw [List.length_drop]; omega
            have HR := Lib.hid (And.intro hrest2 (And.intro hdl hlen))
            clear hrest hrest2 hdl hlen
            have f1 : (1 : Int) ≤ ((r.length - 64 : Nat) : Int) := by omega
            have f2 : 1 ≤ c2 - 64 := by omega
            have f3 : (1 : Int) ≤ ((c2 - 64 : Nat) : Int) := by omega
            have HOW := Lib.hid (show Own (w6.alloc (.cells #[] 5)).drew w.heap.size 5 encB (.slice (some ⟨w6.heap.size, 0, none⟩) 0 0) [] from Own.made w6 w.heap.size 5 encB [] #[] rfl HF2.out.2.1.size (by simp))
            have HAB : Hid (Blk (w6.alloc (.cells #[] 5)).drew w.heap.size 44 zeroPod ∧ Below w.heap.size w (w6.alloc (.cells #[] 5)).drew ∧ Blk (w6.alloc (.cells #[] 5)).drew (w.heap.size + 1) 44 (cutPdY id im r y64).cells) := ⟨(HF2.out.1.alloc _).drew, (HF2.out.2.1.alloc HF2.out.2.1.size _).drew, (HF2.out.2.2.alloc _).drew⟩
            go_wp2_with fail
            go_region_law (refine step_app elemB encB rfl (.tmp 115) (.tmp 117) rfl w.heap.size _ [] rfl HOW.out _ (r.drop 65) (c2 - 64 - 1) (by rw [HR.out.2.1]; rfl) (HR.out.1.below HAB.out.2.1) (by rw [List.length_nil]; have := HR.out.2.2; omega) (by rw [List.length_nil]; have := HR.out.2.2; omega) HAB.out.2.1.size ?_; intro A8 c8 w8 hown8 hgrow8 _; have zb : Blk w8 w.heap.size 44 zeroPod := (HAB.out.1.grown hgrow8 (HOW.out.ne_blk HAB.out.1 (by decide))); have zc := zb.cell; have zf := zb.frozen; have lc8 := (HAB.out.2.2.grown hgrow8 (HOW.out.ne_blk HAB.out.2.2 (by decide))).cell; have HB8 := Lib.hid (HOW.out.belowGrown HAB.out.2.1 hgrow8 (Nat.le_refl _) HAB.out.2.1.size); have HZ := Lib.hid zb; have HO8 := Lib.hid hown8; clear hgrow8 zb hown8)
            all_goals generalize (if c2 - 64 = 1 then some (⟨b, off + 64, none⟩ : Addr) else some ⟨b, off + 64 + 1, none⟩) = A9
            all_goals
              go_wp2_with fail
              obtain ⟨s1, s2, s3⟩ := setCells_blk w.heap.size 44 (cutPdY id im r y64).cells.toList 0 w8 zeroPod.toList (by simp) HZ.out
              have s4 : Blk (w8.setCells w.heap.size 0 (cutPdY id im r y64).cells.toList) w.heap.size 44 (cutPdY id im r y64).cells := s1
              have hown9 := HO8.out.grown s2 (.inr (HO8.out.ne_blk HZ.out (by decide)).symm)
              have hbel9 := HB8.out.grown s2 HB8.out.size (by intro k hk; cases hk; exact Nat.le_refl _)
              change bodyPost _ _ _ _ _ (w8.setCells w.heap.size 0 (cutPdY id im r y64).cells.toList)
              generalize w8.setCells w.heap.size 0 (cutPdY id im r y64).cells.toList = w9 at *
              have hl9 := s4.cell
              have hlen9 : r.length - 65 = (r.drop 65).length := by rw [List.length_drop]
              have hlen0 : ([] : List UInt8).length + (r.drop 65).length = (r.drop 65).length := by simp
              rw [hlen0, List.nil_append] at hown9
              clear zc zf lc8 lc6 s1 s2 s3
              exact bodyPost_ret (v := .tuple #[.agg (cutPdY id im r y64).cells, .slice A8 (r.drop 65).length c8, .int .i64 0]) (by simp [results, Tryd.results50, go_sem, hl9]) rfl (Or.inl ⟨HYES.out, ⟨A8, c8, by unfold cutPd; rw [← HY.out], hown9⟩, hbel9⟩)
end Go.Proofs.YtakgblgbfbpmoaaDoor

namespace Go.Proofs.YtakgblgbfbpmoaaDoor
open Go.RowKit

/-- the pod that bytes begin with, and what is left -/
def cutOf (l : List UInt8) : Option (Pd × List UInt8) :=
  match textOf l with
  | none => none
  | some (a, l1) =>
    match textOf l1 with
    | none => none
    | some (b, r) => if 64 < r.length then (if cutOk (str a) (str b) r = true then some (cutPd (str a) (str b) r, r.drop 65) else none) else none

theorem textOf_some {l a r : List UInt8} (h : textOf l = some (a, r)) : ∃ x l1, l = x :: l1 ∧ x.toNat ≤ l1.length ∧ a = l1.take x.toNat ∧ r = l1.drop x.toNat := by
  rcases l with _ | ⟨x, l1⟩
  · cases h
  · simp only [textOf] at h
    split at h
    · injection h with h; injection h with h1 h2; exact ⟨x, l1, rfl, by assumption, h1.symm, h2.symm⟩
    · cases h

/-- the answer where there is a pod, or none -/
def CutAny (l : List UInt8) (w : World) (e : Ending) (w' : World) : Prop :=
  (∃ p rest, cutOf l = some (p, rest) ∧ (∃ A c, e = .returned (.tuple #[.agg p.cells, .slice A rest.length c, .int .i64 0]) ∧ Own w' w.heap.size 5 encB (.slice A rest.length c) rest) ∧ Below w.heap.size w w') ∨
  (cutOf l = none ∧ e = .returned (.tuple #[.agg zeroPod, .slice none 0 0, .int .i64 3]) ∧ Below w.heap.size w w')

theorem cut_any (A : Option Addr) (c : Nat) (l : List UInt8) (w : World) (hr : Rds w encB A l) (hc : l.length ≤ c) (hm : c ≤ 9223372036854775807) (hbd : l.length ≤ 140737488355328) :
    Calls Tryd.prog 50 #[.slice A l.length c] w (CutAny l w) := by
  cases h1 : textOf l with
  | none => exact (cut_no1 A c l w hr hc hm h1).mono fun e w' h => Or.inr ⟨by unfold cutOf; rw [h1], h⟩
  | some q1 =>
    obtain ⟨a, l1⟩ := q1
    obtain ⟨x, l0, rfl, hx, rfl, rfl⟩ := textOf_some h1
    cases h2 : textOf (l0.drop x.toNat) with
    | none => exact (cut_no2 A c x l0 w hr hc hm hx _ rfl h2).mono fun e w' h => Or.inr ⟨by unfold cutOf; rw [h1]; simp only [h2], h⟩
    | some q2 =>
      obtain ⟨b, r⟩ := q2
      obtain ⟨y, m, hl, hy, rfl, rfl⟩ := textOf_some h2
      have hlen : (m.drop y.toNat).length ≤ 140737488355328 := by
        have e1 : (y :: m).length = l0.length - x.toNat := by rw [← hl, List.length_drop]
        simp only [List.length_cons] at e1 hbd
        rw [List.length_drop]; omega
      by_cases hs : 64 < (m.drop y.toNat).length
      · refine (cut_long A c x y l0 m w hr hc hm hx hl hy _ rfl hs hlen _ _ rfl rfl).mono fun e w' h => ?_
        rcases h with ⟨hk, he, hb⟩ | ⟨hk, he, hb⟩
        · exact Or.inl ⟨_, _, by unfold cutOf; rw [h1]; simp only [h2, if_pos hs, hk]; rfl, he, hb⟩
        · exact Or.inr ⟨by unfold cutOf; rw [h1]; simp only [h2, if_pos hs, hk]; rfl, he, hb⟩
      · exact (cut_short A c x y l0 m w hr hc hm hx hl hy _ rfl (by omega)).mono fun e w' h => Or.inr ⟨by unfold cutOf; rw [h1]; simp only [h2, if_neg hs], h⟩

theorem cut_some {p : Pd} {rest : List UInt8} (A : Option Addr) (c : Nat) (l : List UInt8) (w : World) (hr : Rds w encB A l) (hc : l.length ≤ c) (hm : c ≤ 9223372036854775807) (hbd : l.length ≤ 140737488355328) (h : cutOf l = some (p, rest)) :
    Calls Tryd.prog 50 #[.slice A l.length c] w fun e w' => ∃ A c, e = .returned (.tuple #[.agg p.cells, .slice A rest.length c, .int .i64 0]) ∧ Own w' w.heap.size 5 encB (.slice A rest.length c) rest ∧ Below w.heap.size w w' :=
  (cut_any A c l w hr hc hm hbd).mono fun e w' hp => by
    rcases hp with ⟨p', r', h', ⟨A, c, he, ho⟩, hb⟩ | ⟨h', _⟩
    · rw [h] at h'; injection h' with h'; injection h' with h1 h2; subst h1; subst h2; exact ⟨A, c, he, ho, hb⟩
    · rw [h] at h'; cases h'
theorem cut_none (A : Option Addr) (c : Nat) (l : List UInt8) (w : World) (hr : Rds w encB A l) (hc : l.length ≤ c) (hm : c ≤ 9223372036854775807) (hbd : l.length ≤ 140737488355328) (h : cutOf l = none) :
    Calls Tryd.prog 50 #[.slice A l.length c] w fun e w' => e = .returned (.tuple #[.agg zeroPod, .slice none 0 0, .int .i64 3]) ∧ Below w.heap.size w w' :=
  (cut_any A c l w hr hc hm hbd).mono fun e w' hp => by
    rcases hp with ⟨p', r', h', _⟩ | ⟨_, he, hb⟩
    · rw [h] at h'; cases h'
    · exact ⟨he, hb⟩
theorem put_any (p : Pd) (w : World) (hp : p.Wf) :
    Calls Tryd.prog 33 #[.agg p.cells] w fun e w' => (p.right = true ∧ (∃ A c, e = .returned (.tuple #[.slice A p.bytes.length c, .int .i64 0]) ∧ Own w' w.heap.size 5 encB (.slice A p.bytes.length c) p.bytes) ∧ Below w.heap.size w w') ∨ (p.right = false ∧ e = .returned (.tuple #[.slice none 0 0, .int .i64 1]) ∧ Below w.heap.size w w') := by
  cases h : p.right
  · exact (put_no p w hp h).mono fun e w' h => Or.inr ⟨rfl, h⟩
  · exact (put_yes p w hp h).mono fun e w' ⟨A, c, h1, h2, h3⟩ => Or.inl ⟨rfl, ⟨A, c, h1, h2⟩, h3⟩
end Go.Proofs.YtakgblgbfbpmoaaDoor
