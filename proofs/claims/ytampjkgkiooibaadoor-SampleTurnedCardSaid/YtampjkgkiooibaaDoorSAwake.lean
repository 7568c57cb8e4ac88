/- bilgelaw17.awake: answers that the document fixes. -/
import Derived.Test.YtampjkgkiooibaaDoorSTake
import Derived.Test.YtampjkgkiooibaaDoorEq3U
import Derived.Test.YtampjkgkiooibaaDoorSSame
namespace Go.Proofs.YtampjkgkiooibaaDoor
open Go.RowKit

theorem szR : (Tryd.prog.info? 26).map (·.size) = some 5 := by kernel_rfl
theorem nan_any (w : World) : Calls Tryd.prog 27 #[] w fun e w' => e = .returned (.float .f64 9221120237041090561) ∧ w = w' := by
  have hx : ∀ (W : World), Sem.run Tryd.prog (callFunc 21 #[.int .u64 9221120237041090561]) W = .ok (.value (.float .f64 9221120237041090561)) W := fun W => by
    rw [run_callFunc_extern (e := Extern.MathFloatBits.float64frombits) Tryd.func21 (by kernel_rfl) (by kernel_rfl) (by kernel_rfl) (by kernel_rfl)]
    rfl
  have HX := Lib.hid hx
  clear hx
  go_enter Tryd.func27, Tryd.ntmps27
  go_wp2_with fail
  rw [HX.out]
  go_wp2_with fail
  go_ret
  exact ⟨rfl, rfl⟩
abbrev aw0 (g : Nat) : Rw := ⟨5, 4611235658464650854, 13837309855095848960, 4619567317775286272, some ⟨g, 0, none⟩, [(⟨⟨#[98]⟩, 4611686018427387904, 0, 4607182418800017408⟩ : Ug), (⟨⟨#[97]⟩, 0, 0, 0⟩ : Ug)], 2⟩
theorem aw_nk : kindN 4611235658464650854 ≠ 1 ∧ kindN 13837309855095848960 ≠ 1 ∧ kindN 4619567317775286272 ≠ 1 ∧ kindN 0 ≠ 1 ∧ kindN 4611686018427387904 ≠ 1 ∧ kindN 4607182418800017408 ≠ 1 := by decide
theorem aw_ok : OkTo [(⟨⟨#[98]⟩, 4611686018427387904, 0, 4607182418800017408⟩ : Ug), (⟨⟨#[97]⟩, 0, 0, 0⟩ : Ug)] 2 := fun i hi h2 => by
  have hn := aw_nk
  match i, hi with
  | 0, _ => exact ⟨⟨hn.2.2.2.2.1, hn.2.2.2.1, hn.2.2.2.2.2⟩, fun j hj => by omega, (by decide : named [98] = true)⟩
  | 1, _ => exact ⟨⟨hn.2.2.2.1, hn.2.2.2.1, hn.2.2.2.1⟩, fun j hj => by
      obtain rfl : j = 0 := by omega
      exact (by decide : (⟨#[98]⟩ : ByteArray) ≠ ⟨#[97]⟩), (by decide : named [97] = true)⟩
  | n + 2, _ => omega
theorem aw_right (g : Nat) : RightR (aw0 g) := ⟨by show 2 ≤ 128; decide, ⟨aw_nk.1, aw_nk.2.1, aw_nk.2.2.1⟩, aw_ok⟩
theorem aw_lt : 4611235658464650854 < 18446744073709551616 ∧ 13837309855095848960 < 18446744073709551616 ∧ 4619567317775286272 < 18446744073709551616 ∧ 0 < 18446744073709551616 ∧ 4611686018427387904 < 18446744073709551616 ∧ 4607182418800017408 < 18446744073709551616 := by decide
theorem aw_us : ∀ g ∈ [(⟨⟨#[98]⟩, 4611686018427387904, 0, 4607182418800017408⟩ : Ug), (⟨⟨#[97]⟩, 0, 0, 0⟩ : Ug)], g.Wf ∧ g.id.size ≤ 9223372036854775807 := fun x hx => by
  have hl := aw_lt
  simp only [List.mem_cons, List.not_mem_nil, or_false] at hx
  rcases hx with rfl | rfl
  · exact ⟨⟨hl.2.2.2.2.1, hl.2.2.2.1, hl.2.2.2.2.2⟩, by decide⟩
  · exact ⟨⟨hl.2.2.2.1, hl.2.2.2.1, hl.2.2.2.1⟩, by decide⟩
theorem aw_wf {g : Nat} {W : World} (h : Rds W encG (some ⟨g, 0, none⟩) [(⟨⟨#[98]⟩, 4611686018427387904, 0, 4607182418800017408⟩ : Ug), (⟨⟨#[97]⟩, 0, 0, 0⟩ : Ug)]) : (aw0 g).Wf W := ⟨aw_lt.1, aw_lt.2.1, aw_lt.2.2.1, ⟨by show (-9223372036854775808 : Int) ≤ 5; decide, by show (5 : Int) ≤ 9223372036854775807; decide⟩, h, fun x hx => (aw_us x hx).1, fun x hx => (aw_us x hx).2, Nat.le_refl 2, by show 2 ≤ 9223372036854775807; decide⟩
abbrev awL : List Us := [⟨⟨#[97]⟩, 0, 0, 0⟩, ⟨⟨#[98]⟩, 2, 0, 1⟩]
theorem aw_read : readUses [(⟨⟨#[98]⟩, 4611686018427387904, 0, 4607182418800017408⟩ : Ug), (⟨⟨#[97]⟩, 0, 0, 0⟩ : Ug)] = awL := by kernel_rfl
theorem aw_nums : readN 4611235658464650854 = 1 ∧ readN 13837309855095848960 = 0 ∧ readN 4619567317775286272 = 7 := by decide
def AwP (w : World) (e : Ending) (w' : World) : Prop := ∃ A c, e = .returned (.tuple #[.agg #[.int .i64 5, .int .i64 1, .int .i64 0, .int .i64 7, .slice A 2 c], .int .i64 0]) ∧ Own w' w.heap.size 51 encU (.slice A 2 c) awL ∧ Below w.heap.size w w'
theorem aw_sread {g : Nat} {W : World} (h : Rds W encG (some ⟨g, 0, none⟩) [(⟨⟨#[98]⟩, 4611686018427387904, 0, 4607182418800017408⟩ : Ug), (⟨⟨#[97]⟩, 0, 0, 0⟩ : Ug)]) : Calls Tryd.prog 12 #[.agg #[.int .i64 5, .float .f64 4611235658464650854, .float .f64 13837309855095848960, .float .f64 4619567317775286272, .slice (some ⟨g, 0, none⟩) 2 2]] W (AwP W) := by
  have := sread_walk (v := true) W ⟨fun _ => aw_right g, fun _ => rfl⟩ (aw_wf h) aw_nums.1 aw_nums.2.1 aw_nums.2.2
  rw [aw_read] at this
  exact this
theorem aw_take {g : Nat} {W : World} (h : Rds W encG (some ⟨g, 0, none⟩) [(⟨⟨#[98]⟩, 4611686018427387904, 0, 4607182418800017408⟩ : Ug), (⟨⟨#[97]⟩, 0, 0, 0⟩ : Ug)]) : Calls Tryd.prog 19 #[.agg #[.int .i64 5, .float .f64 4611235658464650854, .float .f64 13837309855095848960, .float .f64 4619567317775286272, .slice (some ⟨g, 0, none⟩) 2 2], .int .i64 4, .int .i64 5, .int .i64 1] W (AwP W) := by
  have := take_any (v := true) (last := 4) (round := 5) (most := 1) W ⟨fun _ => aw_right g, fun _ => rfl⟩ (aw_wf h) aw_nums.1 aw_nums.2.1 aw_nums.2.2 (by decide) (by decide) (by decide) (by decide) (by decide)
  rw [aw_read] at this
  exact this
theorem aw_stale {g : Nat} {W : World} (h : Rds W encG (some ⟨g, 0, none⟩) [(⟨⟨#[98]⟩, 4611686018427387904, 0, 4607182418800017408⟩ : Ug), (⟨⟨#[97]⟩, 0, 0, 0⟩ : Ug)]) : Calls Tryd.prog 19 #[.agg #[.int .i64 5, .float .f64 4611235658464650854, .float .f64 13837309855095848960, .float .f64 4619567317775286272, .slice (some ⟨g, 0, none⟩) 2 2], .int .i64 5, .int .i64 5, .int .i64 1] W fun e w' => e = .returned (.tuple #[.agg #[.int .i64 0, .int .i64 0, .int .i64 0, .int .i64 0, .slice none 0 0], .int .i64 8]) ∧ Below W.heap.size W w' :=
  take_any (v := true) (last := 5) (round := 5) (most := 1) W ⟨fun _ => aw_right g, fun _ => rfl⟩ (aw_wf h) rfl rfl rfl (by decide) (by decide) (by decide) (by decide) (by decide)
theorem aw_bar (W : World) : Calls Tryd.prog 19 #[.agg #[.int .i64 0, .float .f64 9221120237041090561, .float .f64 0, .float .f64 0, .slice none 0 0], .int .i64 (-1), .int .i64 5, .int .i64 9] W fun e w' => e = .returned (.tuple #[.agg #[.int .i64 0, .int .i64 0, .int .i64 0, .int .i64 0, .slice none 0 0], .int .i64 1]) ∧ Below W.heap.size W w' :=
  take_any (v := false) (l := []) (A := none) (c := 0) (last := -1) (round := 5) (most := 9) W ⟨(fun h => by cases h), (fun h => absurd (by decide : kindN 9221120237041090561 = 1) h.k.k0)⟩ ⟨by decide, by decide, by decide, ⟨by decide, by decide⟩, (fun h => absurd rfl h), (fun _ h => by cases h), (fun _ h => by cases h), Nat.le_refl _, by decide⟩ rfl rfl rfl (by decide) (by decide) (by decide) (by decide) (by decide)
theorem aw_sorted : SortedU awL := fun i j hij hj => by
  have h2 : j < 2 := hj
  obtain rfl : j = 1 := by omega
  obtain rfl : i = 0 := by omega
  show blt ⟨#[97]⟩ ⟨#[98]⟩ = true
  kernel_rfl
theorem aw_of {A : Option Addr} {c : Nat} {id : ByteArray} {x : Us} {W : World} (h : Rds W encU A awL) (hx : usOf awL id = x) :
    Calls Tryd.prog 17 #[.agg #[.int .i64 5, .int .i64 1, .int .i64 0, .int .i64 7, .slice A 2 c], .string id] W fun e w' => e = .returned (.agg #[.int .i64 x.a0, .int .i64 x.a1, .int .i64 x.a2]) ∧ Below W.heap.size W w' := by
  subst hx
  exact of_any ⟨5, 1, 0, 7, A, awL, c⟩ id W h (by show 2 ≤ 100000; decide) aw_sorted
set_option maxRecDepth 100000 in
set_option maxHeartbeats 16000000 in
theorem awake17_any (w : World) : Calls Tryd.prog 10 #[] w fun e w' => e = .returned (.bool true) ∧ Below w.heap.size w w' := by
  go_enter Tryd.func10, Tryd.ntmps10
  have HA0 := Lib.hid (Rds.made w encG [(⟨⟨#[98]⟩, 4611686018427387904, 0, 4607182418800017408⟩ : Ug), (⟨⟨#[97]⟩, 0, 0, 0⟩ : Ug)] 47 #[.string ⟨#[98]⟩, .float .f64 4611686018427387904, .float .f64 0, .float .f64 4607182418800017408, .string ⟨#[97]⟩, .float .f64 0, .float .f64 0, .float .f64 0] (0, 0) rfl)
  have HB0 := Lib.hid (((Below.refl w.heap.size w).alloc (Nat.le_refl _) (.cells #[.string ⟨#[98]⟩, .float .f64 4611686018427387904, .float .f64 0, .float .f64 4607182418800017408, .string ⟨#[97]⟩, .float .f64 0, .float .f64 0, .float .f64 0] 47)).alloc (by simp) (.cells #[.int .i64 0, .float .f64 0, .float .f64 0, .float .f64 0, .slice none 0 0] 26))
  have HN0 : Hid (Blk ((w.alloc (.cells #[.string ⟨#[98]⟩, .float .f64 4611686018427387904, .float .f64 0, .float .f64 4607182418800017408, .string ⟨#[97]⟩, .float .f64 0, .float .f64 0, .float .f64 0] 47)).alloc (.cells #[.int .i64 0, .float .f64 0, .float .f64 0, .float .f64 0, .slice none 0 0] 26)) (w.heap.size + 1) 26 #[.int .i64 0, .float .f64 0, .float .f64 0, .float .f64 0, .slice none 0 0]) := by
    have h := Blk.new (w.alloc (.cells #[.string ⟨#[98]⟩, .float .f64 4611686018427387904, .float .f64 0, .float .f64 4607182418800017408, .string ⟨#[97]⟩, .float .f64 0, .float .f64 0, .float .f64 0] 47)) 26 #[.int .i64 0, .float .f64 0, .float .f64 0, .float .f64 0, .slice none 0 0]
    have hz : (w.alloc (.cells #[.string ⟨#[98]⟩, .float .f64 4611686018427387904, .float .f64 0, .float .f64 4607182418800017408, .string ⟨#[97]⟩, .float .f64 0, .float .f64 0, .float .f64 0] 47)).heap.size = w.heap.size + 1 := by simp
    rw [hz] at h; exact h
  go_wp2_with (refine wl_store_blk rfl 26 (.tmp 1) (.tmp 15) rfl (w.heap.size + 1) 26 #[.int .i64 0, .float .f64 0, .float .f64 0, .float .f64 0, .slice none 0 0] #[.int .i64 5, .float .f64 4611235658464650854, .float .f64 13837309855095848960, .float .f64 4619567317775286272, .slice (some ⟨w.heap.size, 0, none⟩) 2 2] rfl rfl HN0.out rfl szR (by simp [Value.oneCell']) ?_; intro w2 hN1 hg1 hs1; have HQ := Lib.hid hN1; have HB := Lib.hid (HB0.out.grown hg1 HB0.out.size (by intro k hk; cases hk; exact Nat.le_succ _)); have HR := Lib.hid (HA0.out.below ((((Below.refl _ (w.alloc (.cells #[.string ⟨#[98]⟩, .float .f64 4611686018427387904, .float .f64 0, .float .f64 4607182418800017408, .string ⟨#[97]⟩, .float .f64 0, .float .f64 0, .float .f64 0] 47))).alloc (Nat.le_refl _) (.cells #[.int .i64 0, .float .f64 0, .float .f64 0, .float .f64 0, .slice none 0 0] 26)).grown hg1 (by simp) (by intro k hk; cases hk; simp)))); have cr : ∀ i, w2.cell? ⟨w.heap.size + 1, i, none⟩ = (#[.int .i64 5, .float .f64 4611235658464650854, .float .f64 13837309855095848960, .float .f64 4619567317775286272, .slice (some ⟨w.heap.size, 0, none⟩) 2 2] : Array Value)[i]? := HQ.out.cell; clear hN1 hg1 hs1)
  refine (aw_sread HR.out).mono ?_; rintro e w3 ⟨As, cs, rfl, ho, hb⟩
  have HQ := Lib.hid (HQ.out.belowAll hb)
  have HR := Lib.hid (HR.out.below hb)
  have HB := Lib.hid (below_rV HB.out hb)
  have HU := Lib.hid ho.toRds
  have HN2 := Lib.hid (Blk.new w3 32 #[.int .i64 0, .int .i64 0, .int .i64 0, .int .i64 0, .slice none 0 0])
  clear ho hb cr HA0 HB0 HN0
  go_wp2_with (refine wl_store_blk rfl 32 (.tmp 2) (.tmp 19) rfl w3.heap.size 32 #[.int .i64 0, .int .i64 0, .int .i64 0, .int .i64 0, .slice none 0 0] #[.int .i64 5, .int .i64 1, .int .i64 0, .int .i64 7, .slice As 2 cs] rfl rfl HN2.out rfl szS (by simp [Value.oneCell']) ?_; intro w4 hN1 hg1 hs1; have HS := Lib.hid hN1; have HB9 := Lib.hid (((Below.refl _ w3).alloc (Nat.le_refl _) (.cells #[.int .i64 0, .int .i64 0, .int .i64 0, .int .i64 0, .slice none 0 0] 32)).grown hg1 (by simp) (by intro k hk; cases hk; exact Nat.le_refl _)); have HQ := Lib.hid (HQ.out.belowAll HB9.out); have HR := Lib.hid (HR.out.below HB9.out); have HU := Lib.hid (HU.out.below HB9.out); have HB := Lib.hid (below_rV HB.out HB9.out); have cr : ∀ i, w4.cell? ⟨w.heap.size + 1, i, none⟩ = (#[.int .i64 5, .float .f64 4611235658464650854, .float .f64 13837309855095848960, .float .f64 4619567317775286272, .slice (some ⟨w.heap.size, 0, none⟩) 2 2] : Array Value)[i]? := HQ.out.cell; clear hN1 hg1 hs1)
  clear HN2 HB9
  generalize w3.heap.size = n2 at *
  refine (aw_stale HR.out).mono ?_; rintro e w5 ⟨rfl, hb⟩
  have HQ := Lib.hid ((HQ.out.belowAll hb).alloc (.cells #[.int .i64 0, .int .i64 0, .int .i64 0, .int .i64 0, .slice none 0 0] 32))
  have HR := Lib.hid ((HR.out.below hb).alloc (.cells #[.int .i64 0, .int .i64 0, .int .i64 0, .int .i64 0, .slice none 0 0] 32))
  have HU := Lib.hid ((HU.out.below hb).alloc (.cells #[.int .i64 0, .int .i64 0, .int .i64 0, .int .i64 0, .slice none 0 0] 32))
  have HS := Lib.hid ((HS.out.belowAll hb).alloc (.cells #[.int .i64 0, .int .i64 0, .int .i64 0, .int .i64 0, .slice none 0 0] 32))
  have HB := Lib.hid ((below_rV HB.out hb).alloc (below_rV HB.out hb).size (.cells #[.int .i64 0, .int .i64 0, .int .i64 0, .int .i64 0, .slice none 0 0] 32))
  clear hb cr
  have cr : ∀ i, (w5.alloc (.cells #[.int .i64 0, .int .i64 0, .int .i64 0, .int .i64 0, .slice none 0 0] 32)).cell? ⟨w.heap.size + 1, i, none⟩ = (#[.int .i64 5, .float .f64 4611235658464650854, .float .f64 13837309855095848960, .float .f64 4619567317775286272, .slice (some ⟨w.heap.size, 0, none⟩) 2 2] : Array Value)[i]? := HQ.out.cell
  go_wp2_with fail
  refine (aw_take HR.out).mono ?_; rintro e w6 ⟨At, ct, rfl, ho, hb⟩
  have HQ := Lib.hid (HQ.out.belowAll hb)
  have HR := Lib.hid (HR.out.below hb)
  have HB := Lib.hid (below_rV HB.out hb)
  have HU := Lib.hid (HU.out.below hb)
  have HS := Lib.hid (HS.out.belowAll hb)
  have HN2 := Lib.hid (Blk.new w6 32 #[.int .i64 0, .int .i64 0, .int .i64 0, .int .i64 0, .slice none 0 0])
  clear ho hb cr
  go_wp2_with (refine wl_store_blk rfl 32 (.tmp 6) (.tmp 29) rfl w6.heap.size 32 #[.int .i64 0, .int .i64 0, .int .i64 0, .int .i64 0, .slice none 0 0] #[.int .i64 5, .int .i64 1, .int .i64 0, .int .i64 7, .slice At 2 ct] rfl rfl HN2.out rfl szS (by simp [Value.oneCell']) ?_; intro w7 hN1 hg1 hs1; have HB9 := Lib.hid (((Below.refl _ w6).alloc (Nat.le_refl _) (.cells #[.int .i64 0, .int .i64 0, .int .i64 0, .int .i64 0, .slice none 0 0] 32)).grown hg1 (by simp) (by intro k hk; cases hk; exact Nat.le_refl _)); have HQ := Lib.hid (HQ.out.belowAll HB9.out); have HR := Lib.hid (HR.out.below HB9.out); have HU := Lib.hid (HU.out.below HB9.out); have HS := Lib.hid (HS.out.belowAll HB9.out); have HB := Lib.hid (below_rV HB.out HB9.out); clear hN1 hg1 hs1)
  clear HN2 HB9
  refine (nan_any _).mono ?_; rintro e w8 ⟨rfl, rfl⟩
  go_wp2_with fail
  refine (aw_bar _).mono ?_; rintro e w9 ⟨rfl, hb⟩
  have HQ := Lib.hid ((HQ.out.belowAll hb).alloc (.cells #[.int .i64 0, .int .i64 0, .int .i64 0, .int .i64 0, .slice none 0 0] 32))
  have HR := Lib.hid ((HR.out.below hb).alloc (.cells #[.int .i64 0, .int .i64 0, .int .i64 0, .int .i64 0, .slice none 0 0] 32))
  have HU := Lib.hid ((HU.out.below hb).alloc (.cells #[.int .i64 0, .int .i64 0, .int .i64 0, .int .i64 0, .slice none 0 0] 32))
  have HS := Lib.hid ((HS.out.belowAll hb).alloc (.cells #[.int .i64 0, .int .i64 0, .int .i64 0, .int .i64 0, .slice none 0 0] 32))
  have HB := Lib.hid ((below_rV HB.out hb).alloc (below_rV HB.out hb).size (.cells #[.int .i64 0, .int .i64 0, .int .i64 0, .int .i64 0, .slice none 0 0] 32))
  clear hb
  have cs0 : ∀ i, (w9.alloc (.cells #[.int .i64 0, .int .i64 0, .int .i64 0, .int .i64 0, .slice none 0 0] 32)).cell? ⟨n2, i, none⟩ = (#[.int .i64 5, .int .i64 1, .int .i64 0, .int .i64 7, .slice As 2 cs] : Array Value)[i]? := HS.out.cell
  obtain ⟨b0, off, hA, _, u0, u1, u2, u3⟩ := HU.out.us (i := 0) (by decide)
  obtain rfl : As = some ⟨b0, off, none⟩ := hA
  have u0' : (w9.alloc (.cells #[.int .i64 0, .int .i64 0, .int .i64 0, .int .i64 0, .slice none 0 0] 32)).cell? ⟨b0, off, none⟩ = some (.string ⟨#[97]⟩) := by simpa using u0
  clear u0 u1 u2 u3
  go_wp2_with fail
  refine (aw_of (id := ⟨#[98]⟩) (x := ⟨⟨#[98]⟩, 2, 0, 1⟩) HU.out (by kernel_rfl)).mono ?_; rintro e wa ⟨rfl, hb⟩
  have HQ := Lib.hid (HQ.out.belowAll hb)
  have HR := Lib.hid (HR.out.below hb)
  have HU := Lib.hid (HU.out.below hb)
  have HS := Lib.hid (HS.out.belowAll hb)
  have HB := Lib.hid (below_rV HB.out hb)
  clear hb cs0 u0'
  have cs0 : ∀ i, wa.cell? ⟨n2, i, none⟩ = (#[.int .i64 5, .int .i64 1, .int .i64 0, .int .i64 7, .slice (some ⟨b0, off, none⟩) 2 cs] : Array Value)[i]? := HS.out.cell
  go_wp2_with fail
  refine (aw_of (id := ⟨#[99]⟩) (x := ⟨⟨#[]⟩, 0, 0, 0⟩) HU.out (by kernel_rfl)).mono ?_; rintro e wb ⟨rfl, hb⟩
  have HQ := Lib.hid (HQ.out.belowAll hb)
  have HR := Lib.hid (HR.out.below hb)
  have HB := Lib.hid (below_rV HB.out hb)
  clear hb cs0
  have cr : ∀ i, wb.cell? ⟨w.heap.size + 1, i, none⟩ = (#[.int .i64 5, .float .f64 4611235658464650854, .float .f64 13837309855095848960, .float .f64 4619567317775286272, .slice (some ⟨w.heap.size, 0, none⟩) 2 2] : Array Value)[i]? := HQ.out.cell
  go_wp2_with fail
  refine (sright_any (v := true) _ ⟨fun _ => aw_right _, fun _ => rfl⟩ (aw_wf HR.out)).mono ?_; rintro e wd ⟨rfl, hb⟩
  have HB := Lib.hid (below_rV HB.out hb)
  clear hb cr
  go_wp2_with fail
  go_ret
  exact ⟨rfl, HB.out⟩
end Go.Proofs.YtampjkgkiooibaaDoor
