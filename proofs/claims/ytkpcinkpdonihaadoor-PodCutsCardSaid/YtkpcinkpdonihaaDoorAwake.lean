/- awake: the answers that the document fixes. -/
import Derived.Test.YtkpcinkpdonihaaDoorCutAll
import Derived.Test.YtkpcinkpdonihaaDoorSums
import Derived.Test.YtkpcinkpdonihaaDoorEq
namespace Go.Proofs.YtkpcinkpdonihaaDoor
open Go.RowKit

def p0 : Pd := ⟨⟨#[97]⟩, -5, true, 1, 2, 3, 0, 2, 9, ⟨#[98]⟩, 7⟩
def pz : Pd := ⟨⟨#[]⟩, 0, false, 0, 0, 0, 0, 0, 0, ⟨#[]⟩, 0⟩
theorem p0_wf : p0.Wf := ⟨by show I64 (-5); unfold I64; omega, by show I64 1; unfold I64; omega, by show I64 2; unfold I64; omega, by show I64 3; unfold I64; omega, by show I64 0; unfold I64; omega, by show I64 2; unfold I64; omega, by show I64 9; unfold I64; omega, by show I64 7; unfold I64; omega, by show 1 ≤ 9223372036854775807; omega, by show 1 ≤ 9223372036854775807; omega⟩
theorem pz_wf : pz.Wf := ⟨by show I64 0; unfold I64; omega, by show I64 0; unfold I64; omega, by show I64 0; unfold I64; omega, by show I64 0; unfold I64; omega, by show I64 0; unfold I64; omega, by show I64 0; unfold I64; omega, by show I64 0; unfold I64; omega, by show I64 0; unfold I64; omega, by show 0 ≤ 9223372036854775807; omega, by show 0 ≤ 9223372036854775807; omega⟩
theorem p0_right : p0.right = true := by decide +kernel
theorem pz_right : pz.right = false := by decide +kernel
theorem p0_len : p0.bytes.length = 69 := by decide +kernel
theorem p0_named : named [65] = false := by decide +kernel
theorem p0_cut : cutOf (p0.bytes ++ [9]) = some (p0, [9]) := by rfl
theorem p0_sums : sumsOf [p0, p0] = ⟨2, 4, 6⟩ := by rfl

theorem elemP : Elem Tryd.prog 40 26 11 104 := by
  obtain ⟨i, h1, h2, h3, h4⟩ := info_parts (show (Tryd.prog.info? 26).map (fun i => (i.zero, i.size, i.bytes)) = some (some (.agg zeroPod), 11, 104) by kernel_rfl)
  exact ⟨Tryd.underlying40, i, _, h1, h2, h3, h4, rfl⟩

set_option maxHeartbeats 4000000 in
theorem awake_any (w : World) : Calls Tryd.prog 4 #[] w fun e w' => e = .returned (.bool true) ∧ Below w.heap.size w w' := by
  go_enter Tryd.func4, Tryd.ntmps4
  go_wp2_with fail
  refine (put_yes p0 _ p0_wf p0_right).mono ?_; rintro e w1 ⟨A1, c1, rfl, hO1, hb1⟩
  have hP1 : Blk w1 w.heap.size 26 p0.cells := (Blk.new w 26 p0.cells).belowAll hb1
  have hB1 : Below w.heap.size w w1 := ((Below.refl _ _).alloc (Nat.le_refl _) _).trans (hb1.mono (by simp))
  have hrd := Rds.made w1 encB [9] 5 #[.int .u8 9] (0, 0) rfl
  have H1 := Lib.hid (And.intro hO1 (And.intro hP1 (And.intro hB1 hrd)))
  have HL := Lib.hid p0_len
  have hz1 : w.heap.size < w1.heap.size := hP1.lt
  clear hO1 hb1 hP1 hB1 hrd
  go_wp2_with (at_builtin; refine wl_app elemB encB rfl (.tmp 18) (.tmp 19) rfl (w.heap.size + 1) _ p0.bytes rfl ((H1.out.1.mono (by simp)).alloc _) _ [9] 1 rfl H1.out.2.2.2 (by rw [HL.out]; decide) (by rw [HL.out]; decide) (by simp; omega) ?_; intro A2 c2 w2 hown2 hgrow2 _; have HO2 := Lib.hid (And.intro hown2 hgrow2); clear hown2 hgrow2)
  have hOa := (H1.out.1.mono (base' := w.heap.size + 1) (by simp)).alloc (.cells #[.int .u8 9] 5)
  have hPa := H1.out.2.1.alloc (.cells #[.int .u8 9] 5)
  have hP2 : Blk w2 w.heap.size 26 p0.cells := hPa.grown HO2.out.2 (hOa.ne_blk hPa (by decide))
  have hB2 : Below w.heap.size w w2 := Own.belowGrown hOa (H1.out.2.2.1.alloc H1.out.2.2.1.size _) HO2.out.2 (by omega) (by simp; omega)
  have hl2 : (p0.bytes ++ [9]).length = 70 := by rw [List.length_append, HL.out]; rfl
  have hO2 := HO2.out.1
  have e2 : p0.bytes.length + [(9 : UInt8)].length = (p0.bytes ++ [9]).length := by rw [List.length_append]
  rw [e2] at hO2
  rw [show p0.bytes.length + 1 = (p0.bytes ++ [(9 : UInt8)]).length from e2]
  obtain ⟨_, hc2, hm2⟩ := hO2.cap
  refine (cut_some A2 c2 (p0.bytes ++ [9]) _ hO2.toRds hc2 hm2 (by rw [hl2]; decide) p0_cut).mono ?_; rintro e w3 ⟨A3, c3, rfl, hO3, hb3⟩
  have hP3 := hP2.belowAll hb3
  have hB3 := hB2.trans (hb3.mono hB2.size)
  have hz3 : w.heap.size < w3.heap.size := hP3.lt
  have H3 := Lib.hid (And.intro hP3 (And.intro hB3 hO3))
  have HL2 := Lib.hid hl2
  clear hOa hPa hP2 hB2 hl2 hO2 e2 hO3 hb3 hP3 hB3 H1 HO2
  go_wp2_with fail
  refine (put_no pz _ pz_wf pz_right).mono ?_; rintro e w4 ⟨rfl, hb4⟩
  have hP4 := (H3.out.1.alloc (.cells p0.cells 26)).belowAll hb4
  have hQ4 := (Blk.new w3 26 p0.cells).belowAll hb4
  have hB4 := (H3.out.2.1.alloc H3.out.2.1.size (.cells p0.cells 26)).trans (hb4.mono (by have := H3.out.2.1.size; simp; omega))
  have H4 := Lib.hid (And.intro hP4 (And.intro hQ4 hB4))
  have cp := hP4.cell
  have cq := hQ4.cell
  have l69 : ((p0.bytes.length : Int) == 69) = true := by rw [HL.out]; rfl
  clear hP4 hQ4 hB4 hb4 H3
  go_wp2_with fail
  refine (right_any p0 _ p0_wf).mono ?_; rintro e w5 ⟨rfl, hb5⟩
  rw [p0_right]
  have H5 := Lib.hid (And.intro (H4.out.1.belowAll hb5) (H4.out.2.2.trans (hb5.mono H4.out.2.2.size)))
  clear hb5 H4 cp cq
  have cp := H5.out.1.cell
  go_wp2_with fail
  refine (named_any ⟨#[65]⟩ _ (by show 1 ≤ 9223372036854775807; omega)).mono ?_; rintro e w6 ⟨rfl, hb6⟩
  rw [show named (⟨#[65]⟩ : ByteArray).data.toList = false from p0_named]
  have H6 := Lib.hid (And.intro (H5.out.1.belowAll hb6) (H5.out.2.trans (hb6.mono H5.out.2.size)))
  clear hb6 H5 cp
  have cp := H6.out.1.cell
  go_wp2_with fail
  refine (sums_any [p0, p0] _ 2 _ (Rds.made w6 encP [p0, p0] 26 _ (0, 0) rfl) (by intro p hp; simp at hp; subst hp; exact p0_wf) (by decide)).mono ?_; rintro e w7 ⟨rfl, hb7⟩
  rw [p0_sums]
  have hB7 := (H6.out.2.alloc H6.out.2.size _).trans (hb7.mono (by have := H6.out.2.size; simp; omega))
  have H7 := Lib.hid hB7
  clear hb7 hB7 H6 cp
  go_wp2_with fail
  go_ret
  exact ⟨rfl, H7.out⟩
end Go.Proofs.YtkpcinkpdonihaaDoor
