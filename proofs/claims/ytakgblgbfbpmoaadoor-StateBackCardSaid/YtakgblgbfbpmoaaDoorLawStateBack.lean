/- bilgelaw24.StateBack: a right state that is put is got as it was; its bytes are fewer than a checkpoint may have; no beginning of them is a state's, nor are they with one more. -/
import Derived.Test.YtakgblgbfbpmoaaDoorMV
import Derived.Test.YtakgblgbfbpmoaaDoorStMore
namespace Go.Proofs.YtakgblgbfbpmoaaDoor
open Go.RowKit

set_option maxRecDepth 100000 in
set_option maxHeartbeats 16000000 in
theorem stateBack_any (rd : Int) (l : List En) (A : Option Addr) (c : Nat) (o0 o1 o2 : Bool) (a : Nat) (ha : a < 65536) (more : UInt8) (w : World) (hr : Rds w encN A l) (hw : ∀ x ∈ l, x.pod.Wf ∧ I64 x.phase) (hm : l.length ≤ 9223372036854775807) :
    Calls Tryd.prog 5 #[.agg #[.int .i64 rd, .slice A l.length c, .bool o0, .bool o1, .bool o2], .int .u16 a, .int .u8 more.toNat] w fun e w' => e = .returned (.bool true) ∧ Below w.heap.size w w' := by
  have mixed : Tryd.prog.follows Departure.mixedOrders = true := by kernel_rfl
  have HQ := Lib.hid (SQ.new rd A l c o0 o1 o2 w)
  have HR := Lib.hid hr
  have HWE := Lib.hid hw
  have HW := Lib.hid (show ∀ x ∈ l, x.pod.Wf from fun x hx => (hw x hx).1)
  clear hr hw
  go_enter Tryd.func5, Tryd.ntmps5
  go_wp2_with fail
  refine (awake24_any _).mono ?_; rintro e w1 ⟨rfl, hb⟩
  have HQ := Lib.hid (HQ.out.below hb)
  clear hb
  have cs := HQ.out.sb.cell
  go_wp2_with fail
  obtain ⟨v1, hv1⟩ : ∃ v, fewS l = v := ⟨_, rfl⟩
  have HFW := Lib.hid hv1
  clear hv1
  refine (few24_any HFW.out rd A c o0 o1 o2 _ (HR.out.below HQ.out.bel) hm).mono ?_; rintro e w2 ⟨rfl, hb⟩
  have HQ := Lib.hid (HQ.out.below hb)
  clear hb cs
  cases v1
  · go_wp2_with fail
    refine (awake24_any _).mono ?_; rintro e w9 ⟨rfl, hb⟩
    have HQ := Lib.hid (HQ.out.below hb)
    clear hb
    go_wp2_with fail
    go_ret
    exact ⟨rfl, HQ.out.bel⟩
  have hl70 : l.length ≤ 70 := (fewS_small HFW.out).1
  have cs := HQ.out.sb.cell
  go_wp2_with fail
  by_cases hR : RightS rd l
  rotate_left
  · have HN := Lib.hid hR
    clear hR
    refine (refStRightV_any (v := false) (RightS.iffNo HN.out) A c o0 o1 o2 _ (HR.out.below HQ.out.bel) HW.out hm).mono ?_; rintro e w3 ⟨rfl, hb⟩
    have HQ := Lib.hid (HQ.out.below hb)
    clear hb cs
    go_wp2_with fail
    refine (awake24_any _).mono ?_; rintro e w9 ⟨rfl, hb⟩
    have HQ := Lib.hid (HQ.out.below hb)
    clear hb
    go_wp2_with fail
    go_ret
    exact ⟨rfl, HQ.out.bel⟩
  have HRS := Lib.hid hR
  clear hR
  refine (refStRightV_any (v := true) (RightS.iffYes HRS.out) A c o0 o1 o2 _ (HR.out.below HQ.out.bel) HW.out hm).mono ?_; rintro e w3 ⟨rfl, hb⟩
  have HQ := Lib.hid (HQ.out.below hb)
  have HSO := Lib.hid HRS.out.sorted
  clear hb cs
  have cs := HQ.out.sb.cell
  go_wp2_with fail
  refine (put24_yes rd l HRS.out A c o0 o1 o2 _ (HR.out.below HQ.out.bel) HW.out).mono ?_; rintro x w4 ⟨A1, c1, rfl, ho, hb⟩
  have hk1 : (putS rd o0 o1 o2 l).length ≤ c1 := ho.cap.2.1
  have hk2 : c1 ≤ 9223372036854775807 := ho.cap.2.2
  have RB := Lib.hid ho.toRds
  have HQ := Lib.hid (HQ.out.below hb)
  clear ho hb
  have hz1 := (putS_len (a := o0) (b := o1) (c := o2) HRS.out).1
  have hz2 := (putS_len (a := o0) (b := o1) (c := o2) HRS.out).2
  have HGY := Lib.hid (got_put (a := o0) (b := o1) (c := o2) HRS.out HW.out)
  generalize putS rd o0 o1 o2 l = L at *
  have HFE := Lib.hid (fun k hk => got_fewer HGY.out k hk)
  have HMO := Lib.hid (fun x => got_one_more HGY.out x)
  have e0 : ((L.length : Int) == 0) = false := beq_eq_false_iff_ne.2 (by omega)
  have e0n : (L.length == 0) = false := beq_eq_false_iff_ne.2 (by omega)
  have e1 : decide ((1048576 : Int) ≤ (L.length : Int)) = false := decide_eq_false (by omega)
  have e1n : decide (1048576 ≤ L.length) = false := decide_eq_false (by omega)
  go_wp2_with fail
  refine (getV HGY.out rfl A1 c1 _ RB.out hk1 hk2 (by omega)).mono ?_; rintro x w5 ⟨A3, c3, rfl, ho, hb⟩
  have RT := Lib.hid (ho.toRds.alloc (.cells #[.int .i64 rd, .slice A3 l.length c3, .bool o0, .bool o1, .bool o2] 25))
  have HT := Lib.hid (Blk.new w5 25 #[.int .i64 rd, .slice A3 l.length c3, .bool o0, .bool o1, .bool o2])
  have HQ := Lib.hid (HQ.out.below hb)
  have RB := Lib.hid (RB.out.below hb)
  have HQ := Lib.hid (HQ.out.alloc (.cells #[.int .i64 rd, .slice A3 l.length c3, .bool o0, .bool o1, .bool o2] 25))
  have RB := Lib.hid (RB.out.alloc (.cells #[.int .i64 rd, .slice A3 l.length c3, .bool o0, .bool o1, .bool o2] 25))
  clear ho hb e0 e0n e1 e1n
  obtain ⟨n, hn⟩ : ∃ n : Nat, n = a % L.length := ⟨_, rfl⟩
  have hnl : n < L.length := by rw [hn]; exact Nat.mod_lt _ (by omega)
  have hn1 : ((a : Int) % (L.length : Int)) = (n : Int) := by rw [hn]; exact (Int.natCast_emod _ _).symm
  have hn2 : ((a : Int).tmod (L.length : Int)) = (n : Int) := by rw [Int.tmod_eq_emod_of_nonneg (by omega)]; exact hn1
  have hlp : (0 : Int) < (L.length : Int) := by omega
  have hk3 : (n : Int) ≤ (c1 : Int) := by omega
  clear hn
  go_wp2_with fail
  refine (getNo (HFE.out n hnl) (show n = (L.take n).length by rw [List.length_take]; omega) A1 c1 _ (RB.out.take n) (by rw [List.length_take]; omega) hk2 (by rw [List.length_take]; omega)).mono ?_; rintro x w6 ⟨rfl, hb⟩
  have HQ := Lib.hid (HQ.out.below hb)
  have RB := Lib.hid (RB.out.below hb)
  have RT := Lib.hid (RT.out.below hb)
  have HT := Lib.hid (HT.out.belowAll hb)
  have HQ := Lib.hid (HQ.out.alloc (.cells #[.int .i64 0, .slice none 0 0, .bool false, .bool false, .bool false] 25))
  have RB := Lib.hid (RB.out.alloc (.cells #[.int .i64 0, .slice none 0 0, .bool false, .bool false, .bool false] 25))
  have RT := Lib.hid (RT.out.alloc (.cells #[.int .i64 0, .slice none 0 0, .bool false, .bool false, .bool false] 25))
  have HT := Lib.hid (HT.out.alloc (.cells #[.int .i64 0, .slice none 0 0, .bool false, .bool false, .bool false] 25))
  clear hb hn1 hn2 hlp hk3
  have hown0 : Own ((w6.alloc (.cells #[.int .i64 0, .slice none 0 0, .bool false, .bool false, .bool false] 25)).alloc (.cells #[] 5)) (w6.heap.size + 1) 5 encB (.slice (some ⟨w6.heap.size + 1, 0, none⟩) 0 0) [] := by
    have h := Own.made (w6.alloc (.cells #[.int .i64 0, .slice none 0 0, .bool false, .bool false, .bool false] 25)) (w6.alloc (.cells #[.int .i64 0, .slice none 0 0, .bool false, .bool false, .bool false] 25)).heap.size 5 encB [] #[] rfl (Nat.le_refl _) (by simp)
    simpa using h
  have hbel0 : Below (w6.heap.size + 1) (w6.alloc (.cells #[.int .i64 0, .slice none 0 0, .bool false, .bool false, .bool false] 25)) ((w6.alloc (.cells #[.int .i64 0, .slice none 0 0, .bool false, .bool false, .bool false] 25)).alloc (.cells #[] 5)) := (Below.refl _ _).alloc (by simp) _
  have HX := Lib.hid (And.intro hown0 hbel0)
  clear hown0 hbel0
  have HB1 : Hid (∀ W : World, Rds (W.alloc (.cells #[.int .u8 more.toNat] 5)) encB (some ⟨W.heap.size, 0, none⟩) [more]) := fun W => Rds.made W encB [more] 5 #[.int .u8 more.toNat] (0, 0) (by rw [encB_all]; rfl)
  have HZ7 : Hid (w6.heap.size + 1 = (w6.alloc (.cells #[.int .i64 0, .slice none 0 0, .bool false, .bool false, .bool false] 25)).heap.size) := by show _ = _; simp
  go_wp2_with (first
    | (at_builtin; refine wl_app elemB encB rfl (.tmp 62) (.tmp 63) rfl (w6.heap.size + 1) _ [] rfl HX.out.1 A1 L c1 rfl (RB.out.below (by rw [← HZ7.out]; exact HX.out.2)) (by simp; omega) (by simp; omega) (by simp) ?_; intro A4 c4 w8 hown3 hgrow3 _; have hbel3 := HX.out.1.belowGrown HX.out.2 hgrow3 (Nat.le_refl _) (by simp); rw [List.length_nil, Nat.zero_add, List.nil_append] at hown3; have HX3 := Lib.hid (And.intro (hown3.alloc (.cells #[.int .u8 more.toNat] 5)) (hbel3.alloc (by have := hbel3.size; simp at this ⊢; omega) (.cells #[.int .u8 more.toNat] 5))); have HB2 := Lib.hid (HB1.out w8); clear hown3 hgrow3 hbel3)
    | (at_builtin; refine wl_app elemB encB rfl (.tmp 64) (.tmp 66) rfl (w6.heap.size + 1) _ L rfl HX3.out.1 _ [more] 1 rfl HB2.out (by simp; omega) (by simp; omega) (by have := HX3.out.2.size; simp at this ⊢; omega) ?_; intro A5 c5 w9 hown4 hgrow4 _; have hbel4 := HX3.out.1.belowGrown HX3.out.2 hgrow4 (Nat.le_refl _) (by have := HX3.out.2.size; simp at this ⊢; omega); have HX4 := Lib.hid (And.intro hown4 hbel4); clear hown4 hgrow4 hbel4))
  have hb : Below (w6.alloc (.cells #[.int .i64 0, .slice none 0 0, .bool false, .bool false, .bool false] 25)).heap.size (w6.alloc (.cells #[.int .i64 0, .slice none 0 0, .bool false, .bool false, .bool false] 25)) w9 := by rw [← HZ7.out]; exact HX4.out.2
  have HQ := Lib.hid (HQ.out.below hb)
  have RB := Lib.hid (RB.out.below hb)
  have RT := Lib.hid (RT.out.below hb)
  have HT := Lib.hid (HT.out.belowAll hb)
  have hcp := HX4.out.1.cap
  refine (getNo (HMO.out more) (show L.length + [more].length = (L ++ [more]).length by rw [List.length_append]) A5 c5 _ HX4.out.1.toRds hcp.2.1 hcp.2.2 (by rw [List.length_append]; simp; omega)).mono ?_; clear hb hcp; rintro x wa ⟨rfl, hb⟩
  have HQ := Lib.hid (HQ.out.below hb)
  have RB := Lib.hid (RB.out.below hb)
  have RT := Lib.hid (RT.out.below hb)
  have HT := Lib.hid (HT.out.belowAll hb)
  have HQ := Lib.hid (HQ.out.alloc (.cells #[.int .i64 0, .slice none 0 0, .bool false, .bool false, .bool false] 25))
  have RB := Lib.hid (RB.out.alloc (.cells #[.int .i64 0, .slice none 0 0, .bool false, .bool false, .bool false] 25))
  have RT := Lib.hid (RT.out.alloc (.cells #[.int .i64 0, .slice none 0 0, .bool false, .bool false, .bool false] 25))
  have HT := Lib.hid (HT.out.alloc (.cells #[.int .i64 0, .slice none 0 0, .bool false, .bool false, .bool false] 25))
  clear hb HX HX3 HX4 HB1 HB2 HZ7
  have cs := HQ.out.sb.cell
  have ct := HT.out.cell
  go_wp2_with fail
  refine (same24_any rd l A A3 c c3 o0 o1 o2 _ (HR.out.below HQ.out.bel) RT.out (by omega)).mono ?_; rintro x wb ⟨rfl, hb⟩
  have HQ := Lib.hid (HQ.out.below hb)
  clear hb cs ct
  go_wp2_with fail
  go_ret
  exact ⟨rfl, HQ.out.bel⟩
end Go.Proofs.YtakgblgbfbpmoaaDoor
