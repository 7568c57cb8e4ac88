/- Several texts in one: pod.Put: a pod's bytes. -/
import Derived.Test.YtakgblgbfbpmoaaDoorMD
import Derived.Test.YtakgblgbfbpmoaaDoorMK
namespace Go.Proofs.YtakgblgbfbpmoaaDoor
open Go.RowKit

/-- a text, its length ahead -/
def textB (s : ByteArray) : List UInt8 := UInt8.ofNat s.size :: s.data.toList
def Pd.nm (p : Pd) : Nat → Int
  | 0 => p.prio + 1073741824
  | 1 => p.size
  | 2 => p.q0
  | 3 => p.q1
  | 4 => p.q2
  | 5 => p.l0
  | 6 => p.l1
  | _ => p.l2
def offs : Nat → Nat
  | 0 => 1
  | 1 => 10
  | k + 2 => k + 3
/-- the first k numbers' bytes -/
def Pd.numsTo (p : Pd) : Nat → List UInt8
  | 0 => []
  | k + 1 => p.numsTo k ++ word (p.nm k)
def critB (c : Bool) : UInt8 := if c then 1 else 0
def Pd.bytes (p : Pd) : List UInt8 := (textB p.id ++ textB p.image) ++ p.numsTo 8 ++ [critB p.crit]
def Pd.textsTo (p : Pd) : Nat → List UInt8
  | 0 => []
  | 1 => textB p.id
  | _ => textB p.id ++ textB p.image
theorem Pd.numsTo_len (p : Pd) (k : Nat) : (p.numsTo k).length = 8 * k := by
  induction k with
  | zero => rfl
  | succ k ih => rw [Pd.numsTo, List.length_append, ih]; unfold word; rw [wordTo_len]; omega

abbrev Pd.cellsUp (p : Pd) : Array Value := #[.string p.id, .int .i64 (p.prio + 1073741824), .bool p.crit, .int .i64 p.q0, .int .i64 p.q1, .int .i64 p.q2, .int .i64 p.l0, .int .i64 p.l1, .int .i64 p.l2, .string p.image, .int .i64 p.size]
/-- what is written when k numbers, and j bytes of the next one are *-/
def Pd.upTo (p : Pd) (k j : Nat) : List UInt8 := p.textsTo 2 ++ p.numsTo k ++ (word (p.nm k)).take j
theorem Pd.upTo_len (p : Pd) (k j : Nat) (hk : k ≤ 8) (hj : j ≤ 8) (ht : (p.textsTo 2).length ≤ 50) : (p.upTo k j).length ≤ 150 := by
  unfold Pd.upTo
  rw [List.length_append, List.length_append, p.numsTo_len, List.length_take]
  omega
theorem Pd.upTo_next (p : Pd) (k : Nat) : p.upTo (k + 1) 0 = p.upTo k 8 := by
  unfold Pd.upTo
  rw [List.take_of_length_le (l := word (p.nm k)) (by unfold word; rw [wordTo_len]; omega)]
  simp [Pd.numsTo]
theorem wordTo_get (n : Int) : ∀ (k j : Nat), j < k → (wordTo n k)[j]? = some (byteAt n (k - 1 - j)) := by
  intro k
  induction k with
  | zero => intro j h; omega
  | succ k ih =>
    intro j h
    rw [wordTo]
    cases j with
    | zero => simp
    | succ j => rw [List.getElem?_cons_succ, ih j (by omega)]; congr 2; omega
theorem Pd.upTo_succ (p : Pd) (k j : Nat) (hj : j < 8) : p.upTo k (j + 1) = p.upTo k j ++ [byteAt (p.nm k) (7 - j)] := by
  unfold Pd.upTo
  have : (word (p.nm k)).take (j + 1) = (word (p.nm k)).take j ++ [byteAt (p.nm k) (7 - j)] := by
    rw [List.take_add_one]
    congr 1
    unfold word
    rw [wordTo_get _ 8 j hj]
    rfl
  rw [this]; simp only [List.append_assoc]
theorem shr_byte (n : Int) (j : Nat) (hj : j < 8) : n / 2 ^ (56 - 8 * j) % 256 = ((byteAt n (7 - j)).toNat : Int) := by
  rw [byteAt_nat]
  obtain rfl | rfl | rfl | rfl | rfl | rfl | rfl | rfl : j = 0 ∨ j = 1 ∨ j = 2 ∨ j = 3 ∨ j = 4 ∨ j = 5 ∨ j = 6 ∨ j = 7 := by omega
  all_goals rfl
theorem ptr_at (b k : Nat) (hk : k < 8) : (numPtrs b)[k]? = some (.pointer (some ⟨b, offs k, none⟩)) := by
  obtain rfl | rfl | rfl | rfl | rfl | rfl | rfl | rfl : k = 0 ∨ k = 1 ∨ k = 2 ∨ k = 3 ∨ k = 4 ∨ k = 5 ∨ k = 6 ∨ k = 7 := by omega
  all_goals rfl
theorem Pd.nm_at (p : Pd) (k : Nat) (hk : k < 8) : p.cellsUp[offs k]? = some (.int .i64 (p.nm k)) := by
  obtain rfl | rfl | rfl | rfl | rfl | rfl | rfl | rfl : k = 0 ∨ k = 1 ∨ k = 2 ∨ k = 3 ∨ k = 4 ∨ k = 5 ∨ k = 6 ∨ k = 7 := by omega
  all_goals rfl

theorem Pd.text_at (p : Pd) (k : Nat) (hk : k < 2) (h0 : p.id.size ≤ 24) (h1 : p.image.size ≤ 24) : ∃ s : ByteArray, s.size ≤ 24 ∧ #[Value.string p.id, Value.string p.image][k]? = some (.string s) ∧ p.textsTo (k + 1) = p.textsTo k ++ textB s := by
  obtain rfl | rfl : k = 0 ∨ k = 1 := by omega
  · exact ⟨p.id, h0, rfl, rfl⟩
  · exact ⟨p.image, h1, rfl, rfl⟩
theorem Pd.textsTo_len (p : Pd) (k : Nat) (hk : k ≤ 2) (h0 : p.id.size ≤ 24) (h1 : p.image.size ≤ 24) : (p.textsTo k).length ≤ 50 := by
  have e0 : (textB p.id).length = p.id.size + 1 := rfl
  have e1 : (textB p.image).length = p.image.size + 1 := rfl
  obtain rfl | rfl | rfl : k = 0 ∨ k = 1 ∨ k = 2 := by omega
  · simp [Pd.textsTo]
  · simp only [Pd.textsTo]; omega
  · simp only [Pd.textsTo, List.length_append]; omega
theorem Pd.right_named (p : Pd) (h : p.right = true) : p.id.size ≤ 24 ∧ p.image.size ≤ 24 := by
  unfold Pd.right named at h
  simp only [Bool.and_eq_true, decide_eq_true_eq] at h
  exact ⟨h.2.1.1.2, h.2.2.1.1.2⟩
theorem Pd.right_prio (p : Pd) (h : p.right = true) : -1073741824 ≤ p.prio ∧ p.prio ≤ 1073741824 ∧ 0 ≤ p.size := by
  unfold Pd.right Pd.rest at h
  simp only [Bool.and_eq_true, decide_eq_true_eq] at h
  exact h.2.2.2
theorem byte_small (n : Nat) (h : n ≤ 24) : ((UInt8.ofNat n).toNat : Int) = n := by
  rw [UInt8.toNat_ofNat']; omega

theorem put_no (p : Pd) (w : World) (hp : p.Wf) (hr : p.right = false) :
    Calls Tryd.prog 33 #[.agg p.cells] w fun e w' => e = .returned (.tuple #[.slice none 0 0, .int .i64 1]) ∧ Below w.heap.size w w' := by
  have HR := Lib.hid hr
  clear hr
  go_enter Tryd.func33, Tryd.ntmps33
  go_wp2_with fail
  refine (right_any p _ hp).mono ?_; rintro e w1 ⟨rfl, hb⟩
  rw [HR.out]
  go_wp2_with fail
  go_ret2
  exact ⟨rfl, ((Below.refl _ _).alloc (Nat.le_refl _) _).trans (hb.mono (by simp))⟩

set_option maxHeartbeats 4000000 in
theorem put_yes (p : Pd) (w : World) (hp : p.Wf) (hr : p.right = true) :
    Calls Tryd.prog 33 #[.agg p.cells] w fun e w' => ∃ A c, e = .returned (.tuple #[.slice A p.bytes.length c, .int .i64 0]) ∧ Own w' w.heap.size 5 encB (.slice A p.bytes.length c) p.bytes ∧ Below w.heap.size w w' := by
  have HR := Lib.hid hr
  obtain ⟨hs0, hs1⟩ := p.right_named hr
  obtain ⟨hpr1, hpr2, _⟩ := p.right_prio hr
  clear hr
  go_enter Tryd.func33, Tryd.ntmps33
  go_wp2_with fail
  refine (right_any p _ hp).mono ?_; rintro e w1 ⟨rfl, hb⟩
  rw [HR.out]
  have hB : Blk w1 w.heap.size 44 p.cells := (Blk.new w _ _).belowAll hb
  have c0 : w1.cell? ⟨w.heap.size, 0, none⟩ = some (.string p.id) := hB.cell 0
  have c9 : w1.cell? ⟨w.heap.size, 9, none⟩ = some (.string p.image) := hB.cell 9
  go_wp2_with fail
  have hB1 : Blk (w1.alloc (.cells #[.string p.id, .string p.image] 9)) w.heap.size 44 p.cells := hB.alloc _
  have hS1 : Blk (w1.alloc (.cells #[.string p.id, .string p.image] 9)) w1.heap.size 9 #[.string p.id, .string p.image] := Blk.new _ _ _
  have hz1 : w.heap.size + 1 ≤ w1.heap.size := by have := hb.size; simpa using this
  have hbb : Below w.heap.size w (w1.alloc (.cells #[.string p.id, .string p.image] 9)) := (((Below.refl _ _).alloc (Nat.le_refl _) _).trans (hb.mono (by simp))).alloc (by omega) _
  clear hb c0 c9 hB
  go_loopw [4, 19] (fun b i wr => ∃ (k : Nat) (A : Option Addr) (c : Nat), k ≤ 2 ∧ i = .int .i64 k ∧ b = .slice A (p.textsTo k).length c ∧
      Own wr w.heap.size 5 encB (.slice A (p.textsTo k).length c) (p.textsTo k) ∧ Below w.heap.size w wr ∧ Blk wr w.heap.size 44 p.cells ∧ Blk wr w1.heap.size 9 #[.string p.id, .string p.image])
    (fun _ i _ => 2 - (intOf i).toNat)
  case atStart => exact ⟨0, none, 0, by omega, rfl, rfl, Own.nil_ _ _ _ _, hbb, hB1, hS1⟩
  case round =>
    obtain ⟨k, A, c, hk, rfl, rfl, hown, hbel, hB, hS⟩ := hrel
    have hsz := hbel.size
    have hl := p.textsTo_len k hk hs0 hs1
    by_cases hlt : k < 2
    · obtain ⟨s, hs, hcs, hT⟩ := p.text_at k hlt hs0 hs1
      have cs : wr.cell? ⟨w1.heap.size, k, none⟩ = some (.string s) := (hS.cell k).trans hcs
      have hrd : Rds (wr.alloc (.cells #[.int .u8 s.size] 5)) encB (some ⟨wr.heap.size, 0, none⟩) [UInt8.ofNat s.size] := Rds.made _ _ _ _ _ _ (by rw [encB_all, List.map_cons, byte_small _ hs]; rfl)
      have H := Lib.hid (And.intro hrd (And.intro hT (And.intro hcs (And.intro hS hB))))
      have HO := Lib.hid (hown.alloc (.cells #[.int .u8 s.size] 5))
      clear hrd hT hcs hS hB hown hB1 hS1 hbb
      go_wp2_with (first | (at_builtin; refine wl_app elemB encB rfl (.tmp 23) (.tmp 27) rfl w.heap.size _ (p.textsTo k) rfl HO.out (some ⟨wr.heap.size, 0, none⟩) [UInt8.ofNat s.size] 1 rfl H.out.1 (by simp; omega) (by simp; omega) (by simp; omega) ?_; intro A1 c1 w2 hown1 hgrow1 _; have G := Lib.hid hgrow1; clear hgrow1) | (at_builtin; refine wl_app_str elemB elemB_zero Tryd.underlying9 rfl (.tmp 28) (.tmp 29) rfl w.heap.size _ _ rfl hown1 s rfl (by simp; omega) (by have := G.out.size; simp at this; omega) ?_; intro A2 c2 w3 hown2 hgrow2))
      obtain ⟨hrd, hT, hcs, hS, hB⟩ := H.out
      have hT2 : (p.textsTo k ++ [UInt8.ofNat s.size]) ++ s.data.toList = p.textsTo (k + 1) := by rw [hT]; simp [textB]
      have hT3 : (p.textsTo k ++ [UInt8.ofNat s.size]).length + s.size = (p.textsTo (k + 1)).length := by rw [← hT2]; simp only [List.length_append]; rfl
      rw [hT2, hT3] at hown2
      have hg1 := G.out
      have hb1 : Below w.heap.size w w2 := HO.out.belowGrown (hbel.alloc hsz _) hg1 (Nat.le_refl _) (by simp; omega)
      have hb2 : Below w.heap.size w w3 := Own.belowGrown hown1 hb1 hgrow2 (Nat.le_refl _) (by have := hg1.size; simp at this; omega)
      have hBb : Blk w3 w.heap.size 44 p.cells := ((hB.alloc _).grown hg1 (HO.out.ne_blk (hB.alloc _) (by decide))).grown hgrow2 (hown1.ne_blk ((hB.alloc _).grown hg1 (HO.out.ne_blk (hB.alloc _) (by decide))) (by decide))
      have hSb : Blk w3 w1.heap.size 9 #[.string p.id, .string p.image] := ((hS.alloc _).grown hg1 (HO.out.ne_blk (hS.alloc _) (by decide))).grown hgrow2 (hown1.ne_blk ((hS.alloc _).grown hg1 (HO.out.ne_blk (hS.alloc _) (by decide))) (by decide))
      have R := And.intro hown2 (And.intro hb2 (And.intro hBb hSb))
      clear hrd hT hcs hS hB hT2 hg1 hgrow2 hown1 hb1 hown2 hb2 hBb hSb H G HO
      go_roundw
      case rel => exact ⟨k + 1, A2, c2, by omega, by go_num, by rw [← hT3]; simp, R.1, R.2.1, R.2.2.1, R.2.2.2⟩
      case measure => simp [intOf]; omega
    · obtain rfl : k = 2 := by omega
      have c1 : wr.cell? ⟨w.heap.size, 1, none⟩ = some (.int .i64 p.prio) := hB.cell 1
      have f1 : wr.frozen? ⟨w.heap.size, 1, none⟩ = false := hB.frozen 1
      have hB2 : Blk (wr.setCell ⟨w.heap.size, 1, none⟩ (.int .i64 (p.prio + 1073741824))) w.heap.size 44 p.cellsUp := hB.set_ 1 _
      have hO2 := hown.setFar hB (by decide) 1 (.int .i64 (p.prio + 1073741824))
      have hbel2 := hbel.setCell (p := ⟨w.heap.size, 1, none⟩) (Nat.le_refl _) (.int .i64 (p.prio + 1073741824))
      have H := Lib.hid (And.intro hB2 (And.intro hO2 hbel2))
      have hlt0 := hB.lt
      clear hB2 hO2 hbel2 hown hB hS hbel hB1 hS1 hbb
      go_wp2_with fail
      refine (numbers_any _ _).mono ?_; rintro e w4 ⟨rfl, hP, hb4, hs4⟩
      obtain ⟨hB2, hO2, hbel2⟩ := H.out
      have hB4 := hB2.belowAll hb4
      have hO4 := hO2.below hb4 (Nat.le_refl _)
      have hbel4 := hbel2.trans (hb4.mono (by simp; omega))
      simp only [World.size_setCell] at hP hs4
      clear hB2 hO2 hbel2 hb4 c1 f1 H
      have ht2 := hl
      have hgp0 : w.heap.size < wr.heap.size := hlt0
      obtain ⟨wo, rfl⟩ : ∃ wo : World, wo = wr := ⟨_, rfl⟩
      have B0 : p.upTo 0 0 = p.textsTo 2 := by simp [Pd.upTo, Pd.numsTo]
      rw [← B0] at hO4
      have HB0 := Lib.hid B0
      clear B0
      have Bfin := Lib.hid (And.intro hB4 (And.intro hP (And.intro hO4 hbel4)))
      clear hB4 hP hO4 hbel4
      go_wp2_with fail
      go_loopw [4, 38] (fun b i wq => ∃ (k : Nat) (A : Option Addr) (c : Nat), k ≤ 8 ∧ i = .int .i64 k ∧ b = .slice A (p.upTo k 0).length c ∧
          Own wq w.heap.size 5 encB (.slice A (p.upTo k 0).length c) (p.upTo k 0) ∧ Below w.heap.size w wq ∧ Blk wq w.heap.size 44 p.cellsUp ∧ Blk wq wo.heap.size 88 (numPtrs w.heap.size))
        (fun _ i _ => 8 - (intOf i).toNat)
      case atStart => exact ⟨0, A, c, by omega, rfl, by rw [HB0.out], by rw [HB0.out] at Bfin ⊢; exact Bfin.out.2.2.1, Bfin.out.2.2.2, Bfin.out.1, Bfin.out.2.1⟩
      case round =>
        clear Bfin HB0
        obtain ⟨k, A, c, hk, rfl, rfl, hown, hbel, hB, hP⟩ := hrel
        by_cases hlt : k < 8
        · have cp : wr.cell? ⟨wo.heap.size, k, none⟩ = some (.pointer (some ⟨w.heap.size, offs k, none⟩)) := (hP.cell k).trans (ptr_at _ _ hlt)
          have cn : wr.cell? ⟨w.heap.size, offs k, none⟩ = some (.int .i64 (p.nm k)) := (hB.cell (offs k)).trans (p.nm_at k hlt)
          have hsz := hbel.size
          have H := Lib.hid (And.intro hown (And.intro hbel (And.intro hB hP)))
          have dk : decide ((k : Int) < 8) = true := decide_eq_true (by omega)
          clear hown hbel hB hP cn
          go_wp2_with fail
          go_loopw [4, 9] (fun b s wq => ∃ (j : Nat) (A : Option Addr) (c : Nat), j ≤ 8 ∧ s = .int .i64 (56 - 8 * (j : Int)) ∧ b = .slice A (p.upTo k j).length c ∧
              Own wq w.heap.size 5 encB (.slice A (p.upTo k j).length c) (p.upTo k j) ∧ Below w.heap.size w wq ∧ Blk wq w.heap.size 44 p.cellsUp ∧ Blk wq wo.heap.size 88 (numPtrs w.heap.size))
            (fun _ s _ => (intOf s + 8).toNat)
          case atStart => exact ⟨0, A, c, by omega, rfl, rfl, H.out.1, H.out.2.1, H.out.2.2.1, H.out.2.2.2⟩
          case round =>
            clear H
            obtain ⟨j, A, c, hj, rfl, rfl, hown, hbel, hB, hP⟩ := hrel
            by_cases hlj : j < 8
            · have dj : decide (8 * (j : Int) ≤ 56) = true := decide_eq_true (by omega)
              have cn : wr.cell? ⟨w.heap.size, offs k, none⟩ = some (.int .i64 (p.nm k)) := (hB.cell (offs k)).trans (p.nm_at k hlt)
              have hsz := hbel.size
              have hl := p.upTo_len k j hk hj ht2
              have hT := p.upTo_succ k j hlj
              have hrd : Rds (wr.alloc (.cells #[.int .u8 (p.nm k / 2 ^ (56 - 8 * j) % 256)] 5)) encB (some ⟨wr.heap.size, 0, none⟩) [byteAt (p.nm k) (7 - j)] := Rds.made _ _ _ _ _ _ (by rw [encB_all, shr_byte _ _ hlj]; rfl)
              have H := Lib.hid (And.intro hrd (And.intro hT (And.intro hbel (And.intro hP hB))))
              have HO := Lib.hid (hown.alloc (.cells #[.int .u8 (p.nm k / 2 ^ (56 - 8 * j) % 256)] 5))
              clear hrd hT hown hbel hB hP
              go_wp2_with (at_builtin; refine wl_app elemB encB rfl (.tmp 46) (.tmp 53) rfl w.heap.size _ (p.upTo k j) rfl HO.out (some ⟨wr.heap.size, 0, none⟩) [byteAt (p.nm k) (7 - j)] 1 rfl H.out.1 (by simp; omega) (by simp; omega) (by simp; omega) ?_; intro A1 c1 w2 hown1 hgrow1 _; have G := Lib.hid hgrow1; clear hgrow1)
              obtain ⟨hrd, hT, hbel, hP, hB⟩ := H.out
              rw [← hT] at hown1
              have hT3 : (p.upTo k j).length + [byteAt (p.nm k) (7 - j)].length = (p.upTo k (j + 1)).length := by rw [hT, List.length_append]
              rw [hT3] at hown1
              have hb1 : Below w.heap.size w w2 := HO.out.belowGrown (hbel.alloc hsz _) G.out (Nat.le_refl _) (by simp; omega)
              have hBb : Blk w2 w.heap.size 44 p.cellsUp := (hB.alloc _).grown G.out (HO.out.ne_blk (hB.alloc _) (by decide))
              have hPb : Blk w2 wo.heap.size 88 (numPtrs w.heap.size) := (hP.alloc _).grown G.out (HO.out.ne_blk (hP.alloc _) (by decide))
              have R := And.intro hown1 (And.intro hb1 (And.intro hBb hPb))
              clear hrd hT hbel hP hB hown1 hb1 hBb hPb H HO G cn cp
              go_roundw
              case rel => exact ⟨j + 1, A1, c1, by omega, by go_num, by rw [← hT3]; rfl, R.1, R.2.1, R.2.2.1, R.2.2.2⟩
              case measure => simp [intOf]; omega
            · obtain rfl : j = 8 := by omega
              have e8 := p.upTo_next k
              rw [← e8] at hown
              have E8 := Lib.hid e8
              have R := And.intro hown (And.intro hbel (And.intro hB hP))
              clear e8 hown hbel hB hP cp
              go_wp2_with fail
              go_roundw
              case rel => exact ⟨k + 1, A, c, by omega, by go_num, by rw [E8.out], R.1, R.2.1, R.2.2.1, R.2.2.2⟩
              case measure => simp [intOf]; omega
        · obtain rfl : k = 8 := by omega
          have cc : wr.cell? ⟨w.heap.size, 2, none⟩ = some (.bool p.crit) := hB.cell 2
          have hsz := hbel.size
          have hl := p.upTo_len 8 0 (by omega) (by omega) ht2
          have e8 : p.upTo 8 0 ++ [critB p.crit] = p.bytes := by simp [Pd.upTo, Pd.bytes, Pd.textsTo]
          clear hB hP
          cases hcr : p.crit
          · have hrd : Rds (wr.alloc (.cells #[.int .u8 0] 5)) encB (some ⟨wr.heap.size, 0, none⟩) [critB p.crit] := Rds.made _ _ _ _ _ _ (by rw [encB_all, hcr]; rfl)
            rw [hcr] at cc
            have H := Lib.hid (And.intro hrd (And.intro e8 hbel))
            have HO := Lib.hid (hown.alloc (.cells #[.int .u8 0] 5))
            clear hrd hown hbel hcr e8
            go_wp2_with (at_builtin; refine wl_app elemB encB rfl (.tmp 61) (.tmp 62) rfl w.heap.size _ (p.upTo 8 0) rfl HO.out (some ⟨wr.heap.size, 0, none⟩) [critB p.crit] 1 rfl H.out.1 (by simp; omega) (by simp; omega) (by simp; omega) ?_; intro A1 c1 w2 hown1 hgrow1 _; have G := Lib.hid hgrow1; clear hgrow1)
            obtain ⟨hrd, e8, hbel⟩ := H.out
            have hb1 : Below w.heap.size w w2 := HO.out.belowGrown (hbel.alloc hsz _) G.out (Nat.le_refl _) (by simp; omega)
            have hT3 : (p.upTo 8 0).length + [critB p.crit].length = p.bytes.length := by rw [← e8, List.length_append]
            rw [hT3, e8] at hown1
            go_ret2
            exact ⟨A1, c1, by rw [← hT3]; rfl, hown1, hb1⟩
          · have hrd : Rds (wr.alloc (.cells #[.int .u8 1] 5)) encB (some ⟨wr.heap.size, 0, none⟩) [critB p.crit] := Rds.made _ _ _ _ _ _ (by rw [encB_all, hcr]; rfl)
            rw [hcr] at cc
            have H := Lib.hid (And.intro hrd (And.intro e8 hbel))
            have HO := Lib.hid (hown.alloc (.cells #[.int .u8 1] 5))
            clear hrd hown hbel hcr e8
            go_wp2_with (at_builtin; refine wl_app elemB encB rfl (.tmp 58) (.tmp 59) rfl w.heap.size _ (p.upTo 8 0) rfl HO.out (some ⟨wr.heap.size, 0, none⟩) [critB p.crit] 1 rfl H.out.1 (by simp; omega) (by simp; omega) (by simp; omega) ?_; intro A1 c1 w2 hown1 hgrow1 _; have G := Lib.hid hgrow1; clear hgrow1)
            obtain ⟨hrd, e8, hbel⟩ := H.out
            have hb1 : Below w.heap.size w w2 := HO.out.belowGrown (hbel.alloc hsz _) G.out (Nat.le_refl _) (by simp; omega)
            have hT3 : (p.upTo 8 0).length + [critB p.crit].length = p.bytes.length := by rw [← e8, List.length_append]
            rw [hT3, e8] at hown1
            go_ret2
            exact ⟨A1, c1, by rw [← hT3]; rfl, hown1, hb1⟩
end Go.Proofs.YtakgblgbfbpmoaaDoor
