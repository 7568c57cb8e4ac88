/- bilgelaw17.SampleSigns: the sign of a nought, or of what is below one, doesn't matter; infinity is the greatest number. -/
import Derived.Test.YtampjkgkiooibaaDoorSNums
namespace Go.Proofs.YtampjkgkiooibaaDoor
open Go.RowKit

theorem neg_wrd {n : Nat} (hn : n < 4294967296) : wrd n 0 ^^^ 2 ^ 63 = 9223372036854775808 + wrd n 0 ∧ wrd n 0 < 18446744073709551616 := by
  by_cases h0 : n = 0
  · subst h0; decide
  · have hl : n.log2 < 32 := (Nat.log2_lt h0).2 (by omega)
    have hf := wrd_fields (pl := 0) h0 (by omega) (by omega) (by omega)
    have h9 : wrd n 0 < 9223372036854775808 := by
      have := hf.sg
      unfold sgB at this
      exact Nat.lt_of_not_le (of_decide_eq_false this)
    rw [neg_xor hf.lt, if_neg (by omega)]
    exact ⟨by omega, hf.lt⟩
structure SgQ (mn s1 s2 : Nat) (m : Int) : Prop where
  k1 : kindN mn ≠ 1
  k2 : kindN s1 ≠ 1
  k3 : kindN s2 ≠ 1
  r1 : readN mn = 0
  r2 : readN s1 = 0
  r3 : readN s2 = m
  l1 : mn < 18446744073709551616
  l2 : s1 < 18446744073709551616
  l3 : s2 < 18446744073709551616
theorem inf_facts : kindN 18442240474082181120 ≠ 1 ∧ readN 18442240474082181120 = 0 ∧ kindN 9218868437227405312 ≠ 1 ∧ readN 9218868437227405312 = 9223372036854775807 ∧ kindN 9223372036854775808 ≠ 1 ∧ readN 9223372036854775808 = 0 := by decide
theorem sg_right {mn s1 s2 N : Nat} {m : Int} (h : SgQ mn s1 s2 m) : RightR (⟨0, 9223372036854775808, mn, 9218868437227405312, some ⟨N, 0, none⟩, [(⟨⟨#[112]⟩, 18442240474082181120, s1, s2⟩ : Ug)], 1⟩ : Rw) := by
  have hi := inf_facts
  refine ⟨by show 1 ≤ 128; decide, ⟨hi.2.2.2.2.1, h.k1, hi.2.2.1⟩, fun i hi2 _ => ?_⟩
  have h9 : i < 1 := hi2
  obtain rfl : i = 0 := by omega
  exact ⟨⟨hi.1, h.k2, h.k3⟩, fun j hj => by omega, (by decide : named [112] = true)⟩
theorem sg_wf {mn s1 s2 N : Nat} {m : Int} {W : World} (hq : SgQ mn s1 s2 m) (h : Rds W encG (some ⟨N, 0, none⟩) [(⟨⟨#[112]⟩, 18442240474082181120, s1, s2⟩ : Ug)]) : Rw.Wf (⟨0, 9223372036854775808, mn, 9218868437227405312, some ⟨N, 0, none⟩, [(⟨⟨#[112]⟩, 18442240474082181120, s1, s2⟩ : Ug)], 1⟩ : Rw) W := by
  refine ⟨by show 9223372036854775808 < 18446744073709551616; decide, hq.l1, by show 9218868437227405312 < 18446744073709551616; decide, ⟨by show (-9223372036854775808 : Int) ≤ 0; decide, by show (0 : Int) ≤ 9223372036854775807; decide⟩, h, fun x hx => ?_, fun x hx => ?_, Nat.le_refl 1, by show 1 ≤ 9223372036854775807; decide⟩
  · obtain rfl := List.mem_singleton.1 hx
    exact ⟨by show 18442240474082181120 < 18446744073709551616; decide, hq.l2, hq.l3⟩
  · obtain rfl := List.mem_singleton.1 hx
    exact (by decide : (⟨#[112]⟩ : ByteArray).size ≤ 9223372036854775807)
theorem sg_read {mn s1 s2 : Nat} {m : Int} (h : SgQ mn s1 s2 m) : readUses [(⟨⟨#[112]⟩, 18442240474082181120, s1, s2⟩ : Ug)] = [⟨⟨#[112]⟩, 0, 0, m⟩] := by
  show [toUs ⟨⟨#[112]⟩, 18442240474082181120, s1, s2⟩] = _
  unfold toUs
  rw [h.r2, h.r3, inf_facts.2.1]
theorem fl_int (n : Nat) : floatOfInt .f64 (n : Int) = wrd n 0 := by
  show FloatKind.f64.nearest (n : Int) = _
  unfold FloatKind.nearest
  have h : decide ((n : Int) < 0) = false := decide_eq_false (by omega)
  rw [h, Int.natAbs_natCast]
  rfl
theorem sg_cells {W : World} {b off : Nat} {m : Int} (h : Rds W encU (some ⟨b, off, none⟩) [(⟨⟨#[112]⟩, 0, 0, m⟩ : Us)]) : W.cell? ⟨b, off + 1, none⟩ = some (.int .i64 0) ∧ W.cell? ⟨b, off + 2, none⟩ = some (.int .i64 0) ∧ W.cell? ⟨b, off + 3, none⟩ = some (.int .i64 m) := by
  obtain ⟨b', off', hA, _, _, u1, u2, u3⟩ := h.us (i := 0) (Nat.zero_lt_succ _)
  cases hA
  simp only [List.getElem_cons_zero, Nat.zero_mul, Nat.add_zero] at u1 u2 u3
  exact ⟨u1, u2, u3⟩
set_option maxRecDepth 100000 in
set_option maxHeartbeats 16000000 in
theorem sampleSigns_any (n p : Nat) (w : World) (hn : n < 4294967296) (hp : p < 65536) :
    Calls Tryd.prog 9 #[.int .u32 n, .int .u16 p] w fun e w' => e = .returned (.bool true) ∧ Below w.heap.size w w' := by
  have mixed : Tryd.prog.follows Departure.mixedOrders = true := by kernel_rfl
  obtain ⟨m0, hm0⟩ : ∃ x, wrd n 0 = x := ⟨_, rfl⟩
  obtain ⟨p0, hp0⟩ : ∃ x, wrd p 0 = x := ⟨_, rfl⟩
  obtain ⟨s1, hs1⟩ : ∃ x, wrd p (-16) = x := ⟨_, rfl⟩
  obtain ⟨s2, hs2⟩ : ∃ x, wrd (n * 65536 + p) (-16) = x := ⟨_, rfl⟩
  obtain ⟨mn, hmn⟩ : ∃ x, 9223372036854775808 + wrd n 0 = x := ⟨_, rfl⟩
  have f1 : floatOfInt .f64 (n : Int) = m0 := (fl_int n).trans hm0
  have f2 : floatOfInt .f64 (p : Int) = p0 := (fl_int p).trans hp0
  have HDV : Hid (floatBits .quo .f64 p0 4679240012837945344 = some s1) := Lib.hid (by rw [← hp0, ← hs1]; exact div_exact hp)
  have HAD : Hid (floatBits .add .f64 m0 s1 = some s2) := Lib.hid (by rw [← hm0, ← hs1, ← hs2]; exact add_exact hn hp)
  have HNG : Hid (Op.negFloat .f64 m0 = mn) := Lib.hid (by rw [← hm0, ← hmn]; exact (neg_wrd hn).1)
  have HSG : Hid (SgQ mn s1 s2 (n : Int)) := by
    have a := minus_read hn mn hmn.symm
    have b := small_read hp
    have c := both_read hn hp
    rw [hs1] at b
    rw [hs2] at c
    exact ⟨a.1, b.1, c.1, a.2.1, b.2.1, c.2.1, a.2.2, b.2.2, c.2.2⟩
  clear hm0 hp0 hs1 hs2 hmn hp
  have hn2 : (n : Int) ≤ 4294967295 := by omega
  clear hn
  go_enter Tryd.func9, Tryd.ntmps9
  go_wp2_with fail
  refine (awake17_any _).mono ?_; rintro e w1 ⟨rfl, hb⟩
  have HB := Lib.hid hb
  clear hb
  have q1 := run_float_arith (P := Tryd.prog) w1 .quo 22 .f64 p0 4679240012837945344 s1 HDV.out
  have q2 : Sem.run Tryd.prog (Op.unary .neg (.float .f64 m0)) w1 = .ok (.float .f64 mn) w1 := by rw [← HNG.out]; rfl
  have q3 := run_float_arith (P := Tryd.prog) w1 .add 22 .f64 m0 s1 s2 HAD.out
  go_wp2_with fail
  refine (copysign_no _).mono ?_; rintro x w2 ⟨rfl, rfl⟩
  go_wp2_with fail
  refine (inf_pos _).mono ?_; rintro x w2 ⟨rfl, rfl⟩
  go_wp2_with fail
  refine (inf_neg _).mono ?_; rintro x w2 ⟨rfl, rfl⟩
  have HRD := Lib.hid (Rds.made w1 encG [(⟨⟨#[112]⟩, 18442240474082181120, s1, s2⟩ : Ug)] 47 #[.string ⟨#[112]⟩, .float .f64 (18442240474082181120), .float .f64 s1, .float .f64 s2] (0, 0) rfl)
  have HB := Lib.hid (HB.out.alloc HB.out.size (.cells #[.string ⟨#[112]⟩, .float .f64 (18442240474082181120), .float .f64 s1, .float .f64 s2] 47))
  go_wp2_with fail
  have HL1 := Lib.hid (sg_read HSG.out)
  refine (sread_walk _ ⟨fun _ => sg_right HSG.out, fun _ => rfl⟩ (sg_wf HSG.out HRD.out) inf_facts.2.2.2.2.2 HSG.out.r1 inf_facts.2.2.2.1).mono ?_; rintro e w2 ⟨As, cs, rfl, ho, hb⟩
  rw [HL1.out] at ho ⊢
  have HB := Lib.hid (below_rV HB.out hb)
  have HU := Lib.hid ho.toRds
  have HN0 := Lib.hid (Blk.new w2 32 #[.int .i64 0, .int .i64 0, .int .i64 0, .int .i64 0, .slice none 0 0])
  clear ho hb q1 q2 q3 HRD
  simp only [List.length_singleton]
  obtain ⟨b9, off, hA, _, u0, u1, u2, u3⟩ := HU.out.us (i := 0) (Nat.zero_lt_succ _)
  obtain rfl : As = some ⟨b9, off, none⟩ := hA
  clear u0 u1 u2 u3
  go_wp2_with (refine wl_store_blk rfl 32 (.tmp 7) (.tmp 33) rfl w2.heap.size 32 #[.int .i64 0, .int .i64 0, .int .i64 0, .int .i64 0, .slice none 0 0] #[.int .i64 0, .int .i64 0, .int .i64 0, .int .i64 9223372036854775807, .slice (some ⟨b9, off, none⟩) 1 cs] rfl rfl HN0.out rfl szS (by simp [Value.oneCell']) ?_; intro w3 hN1 hg1 hs1; have HS := Lib.hid hN1; have HBF := Lib.hid (below_fresh hg1); have HB := Lib.hid (below_rV HB.out HBF.out); have HU := Lib.hid (HU.out.below HBF.out); have ks : ∀ i, w3.cell? ⟨w2.heap.size, i, none⟩ = (#[.int .i64 0, .int .i64 0, .int .i64 0, .int .i64 9223372036854775807, .slice (some ⟨b9, off, none⟩) 1 cs] : Array Value)[i]? := HS.out.cell; obtain ⟨u1, u2, u3⟩ := sg_cells HU.out; clear hN1 hg1 hs1)
  go_ret
  exact ⟨rfl, HB.out⟩
end Go.Proofs.YtampjkgkiooibaaDoor
