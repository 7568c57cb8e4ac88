/- bilgelaw23.AdmitBars: without conditions nobody is barred; with all on each pod that isn't critical is; with Memory's alone just those that ask for nothing, and have no limits. -/
import Derived.Test.YtlhmhcidknadmaaDoorASame
namespace Go.Proofs.YtlhmhcidknadmaaDoor
open Go.RowKit

theorem bar_none (p : Pd) : (barD false false false p).2 = false := by unfold barD; split <;> simp
theorem VerD.no3 {room : S3} {p : Pd} {l : List En} {k s e : Int} {O : List ByteArray} (h : VerD room p l false false false k s O e) : k ≠ 3 := by
  rcases h with ⟨_, h, _⟩ | ⟨_, _, h, _⟩ | ⟨_, _, _, h, _⟩ | ⟨_, _, _, h4, _⟩ | ⟨_, _, _, _, _, _, bb, _, h⟩
  · omega
  · omega
  · omega
  · rw [bar_none] at h4; cases h4
  · split at h
    · omega
    · split at h <;> omega
theorem VerD.len {room : S3} {p : Pd} {l : List En} {a b c : Bool} {k s e : Int} {O : List ByteArray} (h : VerD room p l a b c k s O e) : O.length ≤ l.length := by
  rcases h with ⟨_, _, _, rfl, _⟩ | ⟨_, _, _, _, rfl, _⟩ | ⟨_, _, _, _, _, rfl, _⟩ | ⟨_, _, _, _, _, _, rfl, _⟩ | ⟨_, _, _, _, _, _, bb, h, _⟩
  all_goals first | (simp; done) | (have := h.len; rw [podsD_len] at this; exact this)
theorem VerD.bar {room : S3} {p : Pd} {l : List En} {a b c : Bool} {k s e : Int} {O : List ByteArray} (h : VerD room p l a b c k s O e) (he : e = 0) {s0 : Int} (hb : barD a b c p = (s0, true)) : k = 3 ∧ s = s0 := by
  rcases h.ok he with ⟨_, h2, h3, _⟩ | ⟨h1, _⟩
  · exact ⟨h2, by rw [h3, hb]⟩
  · rw [hb] at h1; cases h1
theorem barD_crit {p : Pd} (a b c : Bool) (h : p.crit = true) : (barD a b c p).2 = false := by unfold barD; rw [if_pos h]
theorem barD_all {p : Pd} (h : p.crit = false) : barD true true true p = (if p.none3 = true then 0 else 1, true) := by
  unfold barD
  rw [if_neg (by rw [h]; simp)]
  cases p.none3 <;> rfl
theorem barD_mem {p : Pd} (h : p.crit = false) : barD true false false p = (0, p.none3) := by
  unfold barD
  rw [if_neg (by rw [h]; simp)]
  cases p.none3 <;> rfl
structure LB (f : Cf) (p : Pd) (w W : World) : Prop where
  cf : Blk W (w.heap.size) 25 #[.int .i64 f.cap.a, .int .i64 f.cap.b, .int .i64 f.cap.c, .int .i64 f.room.a, .int .i64 f.room.b, .int .i64 f.room.c, .slice f.A f.ts.length f.n, .int .i64 f.per, .int .i64 f.ret, .int .i64 f.age, .int .i64 f.dead]
  pb : Blk W (w.heap.size + 1) 29 #[.string p.id, .int .i64 p.prio, .bool p.crit, .int .i64 p.q0, .int .i64 p.q1, .int .i64 p.q2, .int .i64 p.l0, .int .i64 p.l1, .int .i64 p.l2, .string p.image, .int .i64 p.size]
  bel : Below w.heap.size w W
theorem LB.below {f : Cf} {p : Pd} {w W W' : World} (h : LB f p w W) (hb : Below W.heap.size W W') : LB f p w W' := ⟨h.cf.belowAll hb, h.pb.belowAll hb, h.bel.trans (hb.mono h.bel.size)⟩
theorem LB.alloc {f : Cf} {p : Pd} {w W : World} (h : LB f p w W) (o : Obj) : LB f p w (W.alloc o) := ⟨h.cf.alloc o, h.pb.alloc o, h.bel.alloc h.bel.size o⟩
theorem LB.drew {f : Cf} {p : Pd} {w W : World} (h : LB f p w W) : LB f p w W.drew := ⟨h.cf.drew, h.pb.drew, h.bel.drew⟩
theorem LB.new (f : Cf) (p : Pd) (w : World) : LB f p w ((w.alloc (.cells #[.int .i64 f.cap.a, .int .i64 f.cap.b, .int .i64 f.cap.c, .int .i64 f.room.a, .int .i64 f.room.b, .int .i64 f.room.c, .slice f.A f.ts.length f.n, .int .i64 f.per, .int .i64 f.ret, .int .i64 f.age, .int .i64 f.dead] 25)).alloc (.cells #[.string p.id, .int .i64 p.prio, .bool p.crit, .int .i64 p.q0, .int .i64 p.q1, .int .i64 p.q2, .int .i64 p.l0, .int .i64 p.l1, .int .i64 p.l2, .string p.image, .int .i64 p.size] 29)) := by
  have z1 : (w.alloc (.cells #[.int .i64 f.cap.a, .int .i64 f.cap.b, .int .i64 f.cap.c, .int .i64 f.room.a, .int .i64 f.room.b, .int .i64 f.room.c, .slice f.A f.ts.length f.n, .int .i64 f.per, .int .i64 f.ret, .int .i64 f.age, .int .i64 f.dead] 25)).heap.size = w.heap.size + 1 := by simp
  have b0 := Blk.new w 25 #[.int .i64 f.cap.a, .int .i64 f.cap.b, .int .i64 f.cap.c, .int .i64 f.room.a, .int .i64 f.room.b, .int .i64 f.room.c, .slice f.A f.ts.length f.n, .int .i64 f.per, .int .i64 f.ret, .int .i64 f.age, .int .i64 f.dead]
  have b1 := Blk.new (w.alloc (.cells #[.int .i64 f.cap.a, .int .i64 f.cap.b, .int .i64 f.cap.c, .int .i64 f.room.a, .int .i64 f.room.b, .int .i64 f.room.c, .slice f.A f.ts.length f.n, .int .i64 f.per, .int .i64 f.ret, .int .i64 f.age, .int .i64 f.dead] 25)) 29 #[.string p.id, .int .i64 p.prio, .bool p.crit, .int .i64 p.q0, .int .i64 p.q1, .int .i64 p.q2, .int .i64 p.l0, .int .i64 p.l1, .int .i64 p.l2, .string p.image, .int .i64 p.size]
  rw [z1] at b1
  have bel : Below w.heap.size w ((w.alloc (.cells #[.int .i64 f.cap.a, .int .i64 f.cap.b, .int .i64 f.cap.c, .int .i64 f.room.a, .int .i64 f.room.b, .int .i64 f.room.c, .slice f.A f.ts.length f.n, .int .i64 f.per, .int .i64 f.ret, .int .i64 f.age, .int .i64 f.dead] 25)).alloc (.cells #[.string p.id, .int .i64 p.prio, .bool p.crit, .int .i64 p.q0, .int .i64 p.q1, .int .i64 p.q2, .int .i64 p.l0, .int .i64 p.l1, .int .i64 p.l2, .string p.image, .int .i64 p.size] 29)) := ((Below.refl w.heap.size w).alloc (Nat.le_refl _) _).alloc (by rw [z1]; omega) _
  exact ⟨(b0.alloc _), b1, bel⟩

set_option maxRecDepth 100000 in
set_option maxHeartbeats 16000000 in
theorem admitBars_any (f : Cf) (l : List En) (p : Pd) (Al : Option Addr) (cl : Nat) (w : World) (hr : Rds w encN Al l) (hw : ∀ x ∈ l, x.pod.Wf ∧ I64 x.phase) (hm : l.length ≤ 9223372036854775807) (hp : p.Wf) (hrt : Rds w encT f.A f.ts) (hnt : f.ts.length ≤ 9223372036854775807) :
    Calls Tryd.prog 5 #[.agg f.cells, .slice Al l.length cl, .agg p.cells] w fun e w' => e = .returned (.bool true) ∧ Below w.heap.size w w' := by
  have mixed : Tryd.prog.follows Departure.mixedOrders = true := by kernel_rfl
  have HQ := Lib.hid (LB.new f p w)
  have HR := Lib.hid hr
  have HW := Lib.hid hw
  have HPW := Lib.hid hp
  have HRT := Lib.hid hrt
  clear hr hw hp hrt
  go_enter Tryd.func5, Tryd.ntmps5
  go_wp2_with fail
  refine (awake23_any _).mono ?_; rintro e w1 ⟨rfl, hb⟩
  have HQ := Lib.hid (HQ.out.below hb)
  clear hb
  have ccf := HQ.out.cf.cell
  go_wp2_with fail
  refine (right07_any f _ (HRT.out.below HQ.out.bel) hnt).mono ?_; rintro e w2 ⟨v1, rfl, hv1, hb⟩
  have HQ := Lib.hid (HQ.out.below hb)
  have HV1 := Lib.hid hv1
  clear hb hv1 ccf
  cases v1
  · go_wp2_with fail
    refine (awake23_any _).mono ?_; rintro e w9 ⟨rfl, hb⟩
    have HQ := Lib.hid (HQ.out.below hb)
    clear hb
    go_wp2_with fail
    go_ret
    exact ⟨rfl, HQ.out.bel⟩
  have HR0 : Hid (Room0 f) := HV1.out rfl
  clear HV1
  by_cases hf : FitE l
  rotate_left
  · go_wp2_with fail
    refine (fit20V_any (v := false) (by simp [hf]) Al cl _ (HR.out.below HQ.out.bel) HW.out hm).mono ?_; rintro e w3 ⟨rfl, hb⟩
    have HQ := Lib.hid (HQ.out.below hb)
    clear hb hf
    go_wp2_with fail
    refine (awake23_any _).mono ?_; rintro e w9 ⟨rfl, hb⟩
    have HQ := Lib.hid (HQ.out.below hb)
    clear hb
    go_wp2_with fail
    go_ret
    exact ⟨rfl, HQ.out.bel⟩
  have HF := Lib.hid hf
  have hl := hf.len
  go_wp2_with fail
  refine (fit20V_any (v := true) (by simp [hf]) Al cl _ (HR.out.below HQ.out.bel) HW.out hm).mono ?_; rintro e w3 ⟨rfl, hb⟩
  have HQ := Lib.hid (HQ.out.below hb)
  clear hb hf
  have cp := HQ.out.pb.cell
  go_wp2_with fail
  obtain ⟨v3, hv3⟩ : ∃ v, p.small = v := ⟨_, rfl⟩
  have HSM := Lib.hid hv3
  clear hv3
  refine (smallV_any HSM.out _).mono ?_; rintro e w4 ⟨rfl, hb⟩
  have HQ := Lib.hid (HQ.out.below hb)
  have HRL := Lib.hid (HR.out.below HQ.out.bel)
  clear hb cp
  cases v3
  · go_wp2_with fail
    refine (awake23_any _).mono ?_; rintro e w9 ⟨rfl, hb⟩
    have HQ := Lib.hid (HQ.out.below hb)
    clear hb
    go_wp2_with fail
    go_ret
    exact ⟨rfl, HQ.out.bel⟩
  obtain ⟨er, her⟩ : ∃ er, errD p l = er := ⟨_, rfl⟩
  have ccf := HQ.out.cf.cell
  have cp := HQ.out.pb.cell
  go_wp2_with fail
  refine (decide_any f l false false false p Al cl _ HRL.out (fun x hx => (HW.out x hx).1) hm HPW.out).mono ?_; rintro e w5 ⟨k1, s1, O1, e1, A1, c1, rfl, hv, ho, hb⟩
  obtain rfl : er = e1 := (hv.err.trans her).symm
  have HD1 := Lib.hid hv
  have HQ := Lib.hid ((HQ.out.below hb).alloc (.cells #[.int .i64 k1, .int .i64 s1, .slice A1 O1.length c1] 36))
  have HRL := Lib.hid ((HRL.out.below hb).alloc (.cells #[.int .i64 k1, .int .i64 s1, .slice A1 O1.length c1] 36))
  have HO1 := Lib.hid (ho.toRds.alloc (.cells #[.int .i64 k1, .int .i64 s1, .slice A1 O1.length c1] 36))
  have HV1 := Lib.hid (Blk.new w5 36 #[.int .i64 k1, .int .i64 s1, .slice A1 O1.length c1])
  clear hv ho hb ccf cp
  have ccf := HQ.out.cf.cell
  have cp := HQ.out.pb.cell
  go_wp2_with fail
  refine (decide_any f l true true true p Al cl _ HRL.out (fun x hx => (HW.out x hx).1) hm HPW.out).mono ?_; rintro e w6 ⟨k2, s2, O2, e2, A2, c2, rfl, hv, ho, hb⟩
  obtain rfl : er = e2 := (hv.err.trans her).symm
  have HD2 := Lib.hid hv
  have HQ := Lib.hid ((HQ.out.below hb).alloc (.cells #[.int .i64 k2, .int .i64 s2, .slice A2 O2.length c2] 36))
  have HRL := Lib.hid ((HRL.out.below hb).alloc (.cells #[.int .i64 k2, .int .i64 s2, .slice A2 O2.length c2] 36))
  have HO2 := Lib.hid (ho.toRds.alloc (.cells #[.int .i64 k2, .int .i64 s2, .slice A2 O2.length c2] 36))
  have HV1 := Lib.hid ((HV1.out.belowAll hb).alloc (.cells #[.int .i64 k2, .int .i64 s2, .slice A2 O2.length c2] 36))
  have HO1 := Lib.hid ((HO1.out.below hb).alloc (.cells #[.int .i64 k2, .int .i64 s2, .slice A2 O2.length c2] 36))
  have HV2 := Lib.hid (Blk.new w6 36 #[.int .i64 k2, .int .i64 s2, .slice A2 O2.length c2])
  clear hv ho hb ccf cp
  have ccf := HQ.out.cf.cell
  have cp := HQ.out.pb.cell
  go_wp2_with fail
  refine (decide_any f l true false false p Al cl _ HRL.out (fun x hx => (HW.out x hx).1) hm HPW.out).mono ?_; rintro e w7 ⟨k3, s3, O3, e3, A3, c3, rfl, hv, ho, hb⟩
  obtain rfl : er = e3 := (hv.err.trans her).symm
  have HD3 := Lib.hid hv
  have HQ := Lib.hid ((HQ.out.below hb).alloc (.cells #[.int .i64 k3, .int .i64 s3, .slice A3 O3.length c3] 36))
  have HRL := Lib.hid ((HRL.out.below hb).alloc (.cells #[.int .i64 k3, .int .i64 s3, .slice A3 O3.length c3] 36))
  have HO3 := Lib.hid (ho.toRds.alloc (.cells #[.int .i64 k3, .int .i64 s3, .slice A3 O3.length c3] 36))
  have HV1 := Lib.hid ((HV1.out.belowAll hb).alloc (.cells #[.int .i64 k3, .int .i64 s3, .slice A3 O3.length c3] 36))
  have HO1 := Lib.hid ((HO1.out.below hb).alloc (.cells #[.int .i64 k3, .int .i64 s3, .slice A3 O3.length c3] 36))
  have HV2 := Lib.hid ((HV2.out.belowAll hb).alloc (.cells #[.int .i64 k3, .int .i64 s3, .slice A3 O3.length c3] 36))
  have HO2 := Lib.hid ((HO2.out.below hb).alloc (.cells #[.int .i64 k3, .int .i64 s3, .slice A3 O3.length c3] 36))
  have HV3 := Lib.hid (Blk.new w7 36 #[.int .i64 k3, .int .i64 s3, .slice A3 O3.length c3])
  clear hv ho hb ccf cp
  have dne : (er != er) = false := by simp
  have hk3 := HD1.out.no3
  have dk3 : (k1 == 3) = false := by simpa using hk3
  have HOL := Lib.hid HD1.out.len
  clear her hk3
  by_cases he : er = 0
  rotate_left
  · have de : (er != 0) = true := by simpa using he
    have y1 := HV1.out.cell
    clear he
    go_wp2_with fail
    go_ret
    exact ⟨rfl, HQ.out.bel⟩
  · subst he
    clear dne
    cases hc : p.crit
    rotate_left
    · obtain ⟨rfl, rfl, rfl⟩ := HD1.out.same HF.out HD2.out rfl (barD_crit _ _ _ hc) (barD_crit _ _ _ hc)
      obtain ⟨rfl, rfl, rfl⟩ := HD1.out.same HF.out HD3.out rfl (barD_crit _ _ _ hc) (barD_crit _ _ _ hc)
      have cp := HQ.out.pb.cell
      have y1 := HV1.out.cell
      have y2 := HV2.out.cell
      have y3 := HV3.out.cell
      go_wp2_with fail
      refine (same23_any k1 s1 O1 A1 A2 c1 c2 _ HO1.out HO2.out (by have := HOL.out; omega)).mono ?_; rintro e w8 ⟨rfl, hb⟩
      have HQ := Lib.hid (HQ.out.below hb)
      have HV1 := Lib.hid (HV1.out.belowAll hb)
      have HV2 := Lib.hid (HV2.out.belowAll hb)
      have HV3 := Lib.hid (HV3.out.belowAll hb)
      have HO1 := Lib.hid (HO1.out.below hb)
      have HO2 := Lib.hid (HO2.out.below hb)
      have HO3 := Lib.hid (HO3.out.below hb)
      clear hb y1 y2 y3
      clear cp
      have y1 := HV1.out.cell
      have y2 := HV2.out.cell
      have y3 := HV3.out.cell
      go_wp2_with fail
      refine (same23_any k1 s1 O1 A1 A3 c1 c3 _ HO1.out HO3.out (by have := HOL.out; omega)).mono ?_; rintro e w9 ⟨rfl, hb⟩
      have HQ := Lib.hid (HQ.out.below hb)
      have HV1 := Lib.hid (HV1.out.belowAll hb)
      have HV2 := Lib.hid (HV2.out.belowAll hb)
      have HV3 := Lib.hid (HV3.out.belowAll hb)
      have HO1 := Lib.hid (HO1.out.below hb)
      have HO2 := Lib.hid (HO2.out.below hb)
      have HO3 := Lib.hid (HO3.out.below hb)
      clear hb y1 y2 y3
      go_wp2_with fail
      go_ret
      exact ⟨rfl, HQ.out.bel⟩
    · have hb2 := HD2.out.bar rfl (barD_all hc)
      have hm3 := barD_mem hc
      obtain ⟨b1, hb1⟩ : ∃ v, ((p.q0 == 0) && ((p.q1 == 0) && (p.q2 == 0))) = v := ⟨_, rfl⟩
      obtain ⟨b2, hb2'⟩ : ∃ v, ((p.l0 == 0) && ((p.l1 == 0) && (p.l2 == 0))) = v := ⟨_, rfl⟩
      have hn3 : p.none3 = (b1 && b2) := by unfold Pd.none3; rw [hb1, hb2']
      rw [hn3] at hb2 hm3
      have HE1 := Lib.hid hb1
      have HE2 := Lib.hid hb2'
      clear hb1 hb2' hn3
      have cp := HQ.out.pb.cell
      have y1 := HV1.out.cell
      cases b1
      · obtain ⟨rfl, rfl⟩ := hb2
        obtain ⟨rfl, rfl, rfl⟩ := HD1.out.same HF.out HD3.out rfl (by rw [bar_none]) (by rw [hm3]; rfl)
        clear hm3
        go_wp2_with fail
        simp only [eq3_top, HE1.out, Result.andThen_ok]
        have y2 := HV2.out.cell
        have y3 := HV3.out.cell
        go_wp2_with fail
        refine (same23_any k1 s1 O1 A1 A3 c1 c3 _ HO1.out HO3.out (by have := HOL.out; omega)).mono ?_; rintro e w9 ⟨rfl, hb⟩
        have HQ := Lib.hid (HQ.out.below hb)
        have HV1 := Lib.hid (HV1.out.belowAll hb)
        have HV2 := Lib.hid (HV2.out.belowAll hb)
        have HV3 := Lib.hid (HV3.out.belowAll hb)
        have HO1 := Lib.hid (HO1.out.below hb)
        have HO2 := Lib.hid (HO2.out.below hb)
        have HO3 := Lib.hid (HO3.out.below hb)
        clear hb y1 y2 y3
        go_wp2_with fail
        go_ret
        exact ⟨rfl, HQ.out.bel⟩
      · cases b2
        · obtain ⟨rfl, rfl⟩ := hb2
          obtain ⟨rfl, rfl, rfl⟩ := HD1.out.same HF.out HD3.out rfl (by rw [bar_none]) (by rw [hm3]; rfl)
          clear hm3
          go_wp2_with fail
          simp only [eq3_top, HE1.out, Result.andThen_ok]
          go_wp2_with fail
          simp only [eq3_top, HE2.out, Result.andThen_ok]
          have y2 := HV2.out.cell
          have y3 := HV3.out.cell
          go_wp2_with fail
          refine (same23_any k1 s1 O1 A1 A3 c1 c3 _ HO1.out HO3.out (by have := HOL.out; omega)).mono ?_; rintro e w9 ⟨rfl, hb⟩
          have HQ := Lib.hid (HQ.out.below hb)
          have HV1 := Lib.hid (HV1.out.belowAll hb)
          have HV2 := Lib.hid (HV2.out.belowAll hb)
          have HV3 := Lib.hid (HV3.out.belowAll hb)
          have HO1 := Lib.hid (HO1.out.below hb)
          have HO2 := Lib.hid (HO2.out.below hb)
          have HO3 := Lib.hid (HO3.out.below hb)
          clear hb y1 y2 y3
          go_wp2_with fail
          go_ret
          exact ⟨rfl, HQ.out.bel⟩
        · obtain ⟨rfl, rfl⟩ := hb2
          obtain ⟨rfl, rfl⟩ := HD3.out.bar rfl hm3
          clear hm3
          go_wp2_with fail
          simp only [eq3_top, HE1.out, Result.andThen_ok]
          go_wp2_with fail
          simp only [eq3_top, HE2.out, Result.andThen_ok]
          have y2 := HV2.out.cell
          have y3 := HV3.out.cell
          go_wp2_with fail
          go_ret
          exact ⟨rfl, HQ.out.bel⟩
end Go.Proofs.YtlhmhcidknadmaaDoor
