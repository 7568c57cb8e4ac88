/- pod.Cut: a pod cut off. -/
import Derived.Test.YtkpcinkpdonihaaDoorPut
import Derived.Test.YtkpcinkpdonihaaDoorText
namespace Go.Proofs.YtkpcinkpdonihaaDoor
open Go.RowKit

abbrev zeroPod : Array Value := #[.string ⟨#[]⟩, .int .i64 0, .bool false, .int .i64 0, .int .i64 0, .int .i64 0, .int .i64 0, .int .i64 0, .int .i64 0, .string ⟨#[]⟩, .int .i64 0]
abbrev cutCells (id im : ByteArray) (f : Nat → Int) : Array Value := #[.string id, .int .i64 (f 0), .bool false, .int .i64 (f 2), .int .i64 (f 3), .int .i64 (f 4), .int .i64 (f 5), .int .i64 (f 6), .int .i64 (f 7), .string im, .int .i64 (f 1)]
def upd (f : Nat → Int) (k : Nat) (v : Int) : Nat → Int := fun i => if i = k then v else f i
theorem cutCells_set (id im : ByteArray) (f : Nat → Int) (k : Nat) (hk : k < 8) (v : Int) : (cutCells id im f).setIfInBounds (offs k) (.int .i64 v) = cutCells id im (upd f k v) := by
  obtain rfl | rfl | rfl | rfl | rfl | rfl | rfl | rfl : k = 0 ∨ k = 1 ∨ k = 2 ∨ k = 3 ∨ k = 4 ∨ k = 5 ∨ k = 6 ∨ k = 7 := by omega
  all_goals simp [cutCells, upd, offs]
theorem cutCells_at (id im : ByteArray) (f : Nat → Int) (k : Nat) (hk : k < 8) : (cutCells id im f)[offs k]? = some (.int .i64 (f k)) := by
  obtain rfl | rfl | rfl | rfl | rfl | rfl | rfl | rfl : k = 0 ∨ k = 1 ∨ k = 2 ∨ k = 3 ∨ k = 4 ∨ k = 5 ∨ k = 6 ∨ k = 7 := by omega
  all_goals rfl

/-- a text could not be cut off -/
def NoText (A : Option Addr) (n c : Nat) (l : List UInt8) (w : World) : Prop := n = l.length ∧ textOf l = none ∧ Rds w encB A l ∧ n ≤ c ∧ c ≤ 9223372036854775807
theorem text_none (A : Option Addr) (n c : Nat) (l : List UInt8) (w : World) (h : NoText A n c l w) :
    Calls Tryd.prog 13 #[.slice A n c] w fun e w' => e = .returned (.tuple #[.string ⟨#[]⟩, .slice none 0 0, .bool false]) ∧ w = w' := by
  obtain ⟨rfl, ht, hr, _, _⟩ := h
  rcases l with _ | ⟨x, l⟩
  · exact text_nil A c w
  · refine text_no x l A c w hr ?_
    simp only [textOf] at ht
    split at ht
    · cases ht
    · omega

theorem zeroPod_one : (zeroPod.all (·.oneCell')) = true := by simp [Value.oneCell']
theorem cells_one (p : Pd) : (p.cells.all (·.oneCell')) = true := by simp [Value.oneCell']
theorem infoPod : (Tryd.prog.info? 26).map (·.size) = some 11 := by kernel_rfl
/-- the result, read out of its block -/
theorem load_pod {w : World} {g : Nat} {cs : Array Value} (h : Blk w g 26 cs) (hs : cs.size = 11) : (loadVar 26 ⟨g, 0, none⟩).run Tryd.prog w = .ok (.agg cs) w := by
  have := run_loadVar_mid (P := Tryd.prog) w g 0 26 cs.toList _ h.range Tryd.underlying26 rfl (by rw [infoPod, Array.length_toList, hs])
  simpa using this

set_option maxHeartbeats 2000000 in
/-- no first text -/
theorem cut_no1 (A : Option Addr) (c : Nat) (l : List UInt8) (w : World) (hr : Rds w encB A l) (hc : l.length ≤ c) (hm : c ≤ 9223372036854775807) (ht : textOf l = none) :
    Calls Tryd.prog 5 #[.slice A l.length c] w fun e w' => e = .returned (.tuple #[.agg zeroPod, .slice none 0 0, .int .i64 3]) ∧ Below w.heap.size w w' := by
  have hN : NoText A l.length c l ((w.alloc (.cells zeroPod 26)).alloc (.cells zeroPod 26)) := ⟨rfl, ht, (hr.alloc _).alloc _, hc, hm⟩
  have hN2 : NoText none 0 0 [] ((w.alloc (.cells zeroPod 26)).alloc (.cells zeroPod 26)) := ⟨rfl, rfl, Rds.nil _ _ _, by omega, by omega⟩
  have H := Lib.hid hN
  have H2 := Lib.hid hN2
  clear hN hN2 hr ht
  go_enter Tryd.func5, Tryd.ntmps5
  go_wp2_with fail
  refine (text_none _ _ _ l _ H.out).mono ?_; rintro e w1 ⟨rfl, rfl⟩
  go_wp2_with fail
  refine (text_none _ _ _ [] _ H2.out).mono ?_; rintro e w1 ⟨rfl, rfl⟩
  go_wp2_with fail
  refine (numbers_any _ _).mono ?_; rintro e w4 ⟨rfl, hP, hb4, hs4⟩
  have hR : Blk w4 w.heap.size 26 zeroPod := ((Blk.new w 26 zeroPod).alloc (.cells zeroPod 26)).belowAll hb4
  have hB : Below w.heap.size w w4 := (((Below.refl _ _).alloc (Nat.le_refl _) (.cells zeroPod 26)).alloc (by simp) (.cells zeroPod 26)).trans (hb4.mono (by simp; omega))
  have HH := Lib.hid (And.intro hR hB)
  clear hP hb4 hs4 hR hB H H2
  go_wp2_with (refine wl_store_blk rfl 26 (.tmp 2) (.tmp 44) rfl w.heap.size 26 zeroPod zeroPod rfl rfl HH.out.1 rfl infoPod zeroPod_one ?_; intro w5 hR5 hg5 hs5)
  have hl5 := hR5.cell
  exact bodyPost_ret (v := .tuple #[.agg zeroPod, .slice none 0 0, .int .i64 3]) (by simp [results, Tryd.results5, go_sem, hl5]) rfl ⟨rfl, HH.out.2.grown hg5 HH.out.2.size (by intro k hk; cases hk; exact Nat.le_refl _)⟩

set_option maxHeartbeats 2000000 in
/-- no second text -/
theorem cut_no2 (A : Option Addr) (c : Nat) (x : UInt8) (l : List UInt8) (w : World) (hr : Rds w encB A (x :: l)) (hc : (x :: l).length ≤ c) (hm : c ≤ 9223372036854775807) (hx : x.toNat ≤ l.length) (m : List UInt8) (hl : l.drop x.toNat = m) (ht : textOf m = none) :
    Calls Tryd.prog 5 #[.slice A (x :: l).length c] w fun e w' => e = .returned (.tuple #[.agg zeroPod, .slice none 0 0, .int .i64 3]) ∧ Below w.heap.size w w' := by
  have H := Lib.hid ((hr.alloc (.cells zeroPod 26)).alloc (.cells zeroPod 26))
  clear hr
  have H2 := Lib.hid ht
  have HL := Lib.hid hl
  clear ht hl
  go_enter Tryd.func5, Tryd.ntmps5
  go_wp2_with fail
  refine (text_yes x l A c _ H.out hc hm hx).mono ?_; rintro e w1 ⟨A1, c1, rfl, ht1, hc1, hm1, rfl⟩
  have hr1 := ht1 _ H.out
  rw [HL.out] at hr1 hc1 ⊢
  clear ht1
  have H3 : Hid (NoText A1 m.length c1 m ((w.alloc (.cells zeroPod 26)).alloc (.cells zeroPod 26)).drew) := ⟨rfl, H2.out, hr1.drew, hc1, hm1⟩
  clear hr1 H H2 HL
  go_wp2_with fail
  refine (text_none _ _ _ _ _ H3.out).mono ?_; rintro e w1 ⟨rfl, rfl⟩
  go_wp2_with fail
  refine (numbers_any _ _).mono ?_; rintro e w4 ⟨rfl, hP, hb4, hs4⟩
  have hR : Blk w4 w.heap.size 26 zeroPod := (((Blk.new w 26 zeroPod).alloc (.cells zeroPod 26)).drew).belowAll hb4
  have hB : Below w.heap.size w w4 := ((((Below.refl _ _).alloc (Nat.le_refl _) (.cells zeroPod 26)).alloc (by simp) (.cells zeroPod 26)).drew).trans (hb4.mono (by simp; omega))
  have HH := Lib.hid (And.intro hR hB)
  clear hP hb4 hs4 hR hB H3
  go_wp2_with (refine wl_store_blk rfl 26 (.tmp 2) (.tmp 44) rfl w.heap.size 26 zeroPod zeroPod rfl rfl HH.out.1 rfl infoPod zeroPod_one ?_; intro w5 hR5 hg5 hs5)
  have hl5 := hR5.cell
  exact bodyPost_ret (v := .tuple #[.agg zeroPod, .slice none 0 0, .int .i64 3]) (by simp [results, Tryd.results5, go_sem, hl5]) rfl ⟨rfl, HH.out.2.grown hg5 HH.out.2.size (by intro k hk; cases hk; exact Nat.le_refl _)⟩

set_option maxHeartbeats 2000000 in
/-- too few bytes behind the texts -/
theorem cut_short (A : Option Addr) (c : Nat) (x y : UInt8) (l m : List UInt8) (w : World) (hr : Rds w encB A (x :: l)) (hc : (x :: l).length ≤ c) (hm : c ≤ 9223372036854775807) (hx : x.toNat ≤ l.length) (hl : l.drop x.toNat = y :: m) (hy : y.toNat ≤ m.length) (r : List UInt8) (hd2 : m.drop y.toNat = r) (hs : r.length ≤ 64) :
    Calls Tryd.prog 5 #[.slice A (x :: l).length c] w fun e w' => e = .returned (.tuple #[.agg zeroPod, .slice none 0 0, .int .i64 3]) ∧ Below w.heap.size w w' := by
  have H := Lib.hid ((hr.alloc (.cells zeroPod 26)).alloc (.cells zeroPod 26))
  clear hr
  have H2 := Lib.hid hl
  have HD := Lib.hid hd2
  clear hl hd2
  go_enter Tryd.func5, Tryd.ntmps5
  go_wp2_with fail
  refine (text_yes x l A c _ H.out hc hm hx).mono ?_; rintro e w1 ⟨A1, c1, rfl, ht1, hc1, hm1, rfl⟩
  have hr1 := ht1 _ H.out
  rw [H2.out] at ht1 hr1 hc1 ⊢
  have H3 := Lib.hid hr1.drew
  clear hr1 ht1 H H2
  go_wp2_with fail
  refine (text_yes y m A1 c1 _ H3.out hc1 hm1 hy).mono ?_; rintro e w1 ⟨A2, c2, rfl, ht2, hc2, hm2, rfl⟩
  have hr2 := ht2 _ H3.out
  rw [HD.out] at ht2 hr2 hc2 ⊢
  clear hr2 ht2 H3 HD
  go_wp2_with fail
  refine (numbers_any _ _).mono ?_; rintro e w4 ⟨rfl, hP, hb4, hs4⟩
  have hR : Blk w4 w.heap.size 26 zeroPod := (((Blk.new w 26 zeroPod).alloc (.cells zeroPod 26)).drew.drew).belowAll hb4
  have hB : Below w.heap.size w w4 := ((((Below.refl _ _).alloc (Nat.le_refl _) (.cells zeroPod 26)).alloc (by simp) (.cells zeroPod 26)).drew.drew).trans (hb4.mono (by simp; omega))
  have HH := Lib.hid (And.intro hR hB)
  have hle : (r.length : Int) ≤ 64 := by omega
  have hd : decide ((r.length : Int) ≤ 64) = true := decide_eq_true hle
  clear hP hb4 hs4 hR hB
  go_wp2_with (refine wl_store_blk rfl 26 (.tmp 2) (.tmp 44) rfl w.heap.size 26 zeroPod zeroPod rfl rfl HH.out.1 rfl infoPod zeroPod_one ?_; intro w5 hR5 hg5 hs5)
  have hl5 := hR5.cell
  exact bodyPost_ret (v := .tuple #[.agg zeroPod, .slice none 0 0, .int .i64 3]) (by simp [results, Tryd.results5, go_sem, hl5]) rfl ⟨rfl, HH.out.2.grown hg5 HH.out.2.size (by intro k hk; cases hk; exact Nat.le_refl _)⟩
end Go.Proofs.YtkpcinkpdonihaaDoor
