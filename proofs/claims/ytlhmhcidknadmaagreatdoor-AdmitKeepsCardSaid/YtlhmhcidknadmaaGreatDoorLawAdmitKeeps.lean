/- bilgelaw23.AdmitKeeps: what is handed in stays; what is answered is new memory. -/
import Derived.Test.YtlhmhcidknadmaaGreatDoorARefDecide
import Derived.Test.YtlhmhcidknadmaaGreatDoorEqV
import Derived.Test.YtlhmhcidknadmaaGreatDoorOwnSet
namespace Go.Proofs.YtlhmhcidknadmaaGreatDoor
open Go.RowKit

theorem eqPod_self (p : Pd) (w : World) : (Op.equalIn 9999 29 (.agg p.cells) (.agg p.cells)).run Tryz.prog w = .ok true w := by
  have r0 : (Op.equalIn 9998 9 (.string p.id) (.string p.id)).run Tryz.prog w = .ok true w := by rw [run_equalIn_string w 9997 _ _ _ Tryz.underlying9]; simp
  have r1 : (Op.equalIn 9998 3 (.int .i64 p.prio) (.int .i64 p.prio)).run Tryz.prog w = .ok true w := by rw [run_equalIn_int w 9997 _ _ _ _ _ Tryz.underlying3]; simp
  have r2 : (Op.equalIn 9998 4 (.bool p.crit) (.bool p.crit)).run Tryz.prog w = .ok true w := by rw [run_equalIn_bool' w 9997 _ _ _ Tryz.underlying4]; simp
  have r3 := eq3_self 9996 p.q0 p.q1 p.q2 w
  have r4 := eq3_self 9996 p.l0 p.l1 p.l2 w
  have r5 : (Op.equalIn 9998 9 (.string p.image) (.string p.image)).run Tryz.prog w = .ok true w := by rw [run_equalIn_string w 9997 _ _ _ Tryz.underlying9]; simp
  have r6 : (Op.equalIn 9998 3 (.int .i64 p.size) (.int .i64 p.size)).run Tryz.prog w = .ok true w := by rw [run_equalIn_int w 9997 _ _ _ _ _ Tryz.underlying3]; simp
  have t0 : ∀ (c0 c1 c2 c3 c4 c5 c6 c7 c8 c9 c10 : Value), (part 9 #[c0, c1, c2, c3, c4, c5, c6, c7, c8, c9, c10] 0).run Tryz.prog w = .ok (c0) w := fun c0 c1 c2 c3 c4 c5 c6 c7 c8 c9 c10 => by kernel_rfl
  have t1 : ∀ (c0 c1 c2 c3 c4 c5 c6 c7 c8 c9 c10 : Value), (part 3 #[c0, c1, c2, c3, c4, c5, c6, c7, c8, c9, c10] 1).run Tryz.prog w = .ok (c1) w := fun c0 c1 c2 c3 c4 c5 c6 c7 c8 c9 c10 => by kernel_rfl
  have t2 : ∀ (c0 c1 c2 c3 c4 c5 c6 c7 c8 c9 c10 : Value), (part 4 #[c0, c1, c2, c3, c4, c5, c6, c7, c8, c9, c10] 2).run Tryz.prog w = .ok (c2) w := fun c0 c1 c2 c3 c4 c5 c6 c7 c8 c9 c10 => by kernel_rfl
  have t3 : ∀ (c0 c1 c2 c3 c4 c5 c6 c7 c8 c9 c10 : Value), (part 22 #[c0, c1, c2, c3, c4, c5, c6, c7, c8, c9, c10] 3).run Tryz.prog w = .ok (.agg #[c3, c4, c5]) w := fun c0 c1 c2 c3 c4 c5 c6 c7 c8 c9 c10 => by kernel_rfl
  have t4 : ∀ (c0 c1 c2 c3 c4 c5 c6 c7 c8 c9 c10 : Value), (part 22 #[c0, c1, c2, c3, c4, c5, c6, c7, c8, c9, c10] 6).run Tryz.prog w = .ok (.agg #[c6, c7, c8]) w := fun c0 c1 c2 c3 c4 c5 c6 c7 c8 c9 c10 => by kernel_rfl
  have t5 : ∀ (c0 c1 c2 c3 c4 c5 c6 c7 c8 c9 c10 : Value), (part 9 #[c0, c1, c2, c3, c4, c5, c6, c7, c8, c9, c10] 9).run Tryz.prog w = .ok (c9) w := fun c0 c1 c2 c3 c4 c5 c6 c7 c8 c9 c10 => by kernel_rfl
  have t6 : ∀ (c0 c1 c2 c3 c4 c5 c6 c7 c8 c9 c10 : Value), (part 3 #[c0, c1, c2, c3, c4, c5, c6, c7, c8, c9, c10] 10).run Tryz.prog w = .ok (c10) w := fun c0 c1 c2 c3 c4 c5 c6 c7 c8 c9 c10 => by kernel_rfl
  rw [run_equalIn_agg w 9998 29 _ _ fieldsP (by kernel_rfl)]
  unfold Program.fieldsOf
  rw [Tryz.underlying29]
  simp [Op.eqFields, Sem.run_bind, Sem.run_pure, t0, r0, t1, r1, t2, r2, t3, r3, t4, r4, t5, r5, t6, r6]
theorem fieldsE : Tryz.prog.underlying 46 = some (.struct (Tryz.prog.fieldsOf 46)) := by
  unfold Program.fieldsOf
  rw [Tryz.underlying46]
theorem neqEnt_self (p : Pd) (ph : Int) (w : World) : (binOp .neq 46 (.agg #[.string p.id, .int .i64 p.prio, .bool p.crit, .int .i64 p.q0, .int .i64 p.q1, .int .i64 p.q2, .int .i64 p.l0, .int .i64 p.l1, .int .i64 p.l2, .string p.image, .int .i64 p.size, .int .i64 ph]) (.agg #[.string p.id, .int .i64 p.prio, .bool p.crit, .int .i64 p.q0, .int .i64 p.q1, .int .i64 p.q2, .int .i64 p.l0, .int .i64 p.l1, .int .i64 p.l2, .string p.image, .int .i64 p.size, .int .i64 ph])).run Tryz.prog w = .ok (.bool false) w := by
  have r0 := eqPod_self p w
  have r1 : (Op.equalIn 9999 3 (.int .i64 ph) (.int .i64 ph)).run Tryz.prog w = .ok true w := by rw [run_equalIn_int w 9998 _ _ _ _ _ Tryz.underlying3]; simp
  have t0 : ∀ (c0 c1 c2 c3 c4 c5 c6 c7 c8 c9 c10 c11 : Value), (part 29 #[c0, c1, c2, c3, c4, c5, c6, c7, c8, c9, c10, c11] 0).run Tryz.prog w = .ok (.agg #[c0, c1, c2, c3, c4, c5, c6, c7, c8, c9, c10]) w := fun c0 c1 c2 c3 c4 c5 c6 c7 c8 c9 c10 c11 => by kernel_rfl
  have t1 : ∀ (c0 c1 c2 c3 c4 c5 c6 c7 c8 c9 c10 c11 : Value), (part 3 #[c0, c1, c2, c3, c4, c5, c6, c7, c8, c9, c10, c11] 11).run Tryz.prog w = .ok (c11) w := fun c0 c1 c2 c3 c4 c5 c6 c7 c8 c9 c10 c11 => by kernel_rfl
  rw [run_neq_struct, run_equalIn_agg w 9999 46 _ _ fieldsE (by kernel_rfl)]
  unfold Program.fieldsOf
  rw [Tryz.underlying46]
  simp [Op.eqFields, Sem.run_bind, Sem.run_pure, t0, r0, t1, r1]
theorem elemN : Elem Tryz.prog 26 46 12 112 := by
  obtain ⟨i, h1, h2, h3, h4⟩ := info_parts (show (Tryz.prog.info? 46).map (fun i => (i.zero, i.size, i.bytes)) = some (some (.agg #[.string ⟨#[]⟩, .int .i64 0, .bool false, .int .i64 0, .int .i64 0, .int .i64 0, .int .i64 0, .int .i64 0, .int .i64 0, .string ⟨#[]⟩, .int .i64 0, .int .i64 0]), 12, 112) by kernel_rfl)
  exact ⟨Tryz.underlying26, i, _, h1, h2, h3, h4, rfl⟩
attribute [go_sem high] neqEnt_self
theorem VerD.len2 {room : S3} {p : Pd} {l : List En} {a b c : Bool} {k s e : Int} {O : List ByteArray} (h : VerD room p l a b c k s O e) : O.length ≤ l.length := by
  rcases h with ⟨_, _, _, rfl, _⟩ | ⟨_, _, _, _, rfl, _⟩ | ⟨_, _, _, _, _, rfl, _⟩ | ⟨_, _, _, _, _, _, rfl, _⟩ | ⟨_, _, _, _, _, _, bb, h, _⟩
  all_goals first | (simp; done) | (have := h.len; rw [podsD_len] at this; exact this)
set_option maxRecDepth 100000 in
set_option maxHeartbeats 16000000 in
theorem admitKeeps_any (f : Cf) (l : List En) (a b c : Bool) (p : Pd) (Al : Option Addr) (cl : Nat) (w : World) (hr : Rds w encN Al l) (hw : ∀ x ∈ l, x.pod.Wf ∧ I64 x.phase) (hm : l.length ≤ 9223372036854775807) (hp : p.Wf) (hrt : Rds w encT f.A f.ts) (hnt : f.ts.length ≤ 9223372036854775807) :
    Calls Tryz.prog 4 #[.agg f.cells, .slice Al l.length cl, .agg #[.bool a, .bool b, .bool c], .agg p.cells] w fun e w' => e = .returned (.bool true) ∧ Below w.heap.size w w' := by
  have mixed : Tryz.prog.follows Departure.mixedOrders = true := by kernel_rfl
  have HQ := Lib.hid (LA.new f a b c p w)
  have HR := Lib.hid hr
  have HW := Lib.hid hw
  have HPW := Lib.hid hp
  have HRT := Lib.hid hrt
  clear hr hw hp hrt
  go_enter Tryz.func4, Tryz.ntmps4
  go_wp2_with fail
  refine (awake23_any _).mono ?_; rintro e w1 ⟨rfl, hb⟩
  have HQ := Lib.hid (HQ.out.below hb)
  clear hb
  have ccf := HQ.out.cf.cell
  go_wp2_with fail
  refine (right07_any f _ (HRT.out.below HQ.out.bel) hnt).mono ?_; rintro e w2 ⟨v1, rfl, hv1, hb⟩
  have HQ := Lib.hid (HQ.out.below hb)
  have HV1 := Lib.hid hv1
  clear hb hv1 ccf
  cases v1
  · go_wp2_with fail
    refine (awake23_any _).mono ?_; rintro e w9 ⟨rfl, hb⟩
    have HQ := Lib.hid (HQ.out.below hb)
    clear hb
    go_wp2_with fail
    go_ret
    exact ⟨rfl, HQ.out.bel⟩
  have HR0 : Hid (Room0 f) := HV1.out rfl
  clear HV1
  by_cases hf : FitE l
  rotate_left
  · go_wp2_with fail
    refine (fit20V_any (v := false) (by simp [hf]) Al cl _ (HR.out.below HQ.out.bel) HW.out hm).mono ?_; rintro e w3 ⟨rfl, hb⟩
    have HQ := Lib.hid (HQ.out.below hb)
    clear hb hf
    go_wp2_with fail
    refine (awake23_any _).mono ?_; rintro e w9 ⟨rfl, hb⟩
    have HQ := Lib.hid (HQ.out.below hb)
    clear hb
    go_wp2_with fail
    go_ret
    exact ⟨rfl, HQ.out.bel⟩
  have HF := Lib.hid hf
  have hl := hf.len
  go_wp2_with fail
  refine (fit20V_any (v := true) (by simp [hf]) Al cl _ (HR.out.below HQ.out.bel) HW.out hm).mono ?_; rintro e w3 ⟨rfl, hb⟩
  have HQ := Lib.hid (HQ.out.below hb)
  clear hb hf
  have cp := HQ.out.pb.cell
  go_wp2_with fail
  obtain ⟨v3, hv3⟩ : ∃ v, p.small = v := ⟨_, rfl⟩
  have HSM := Lib.hid hv3
  clear hv3
  refine (smallV_any HSM.out _).mono ?_; rintro e w4 ⟨rfl, hb⟩
  have HQ := Lib.hid (HQ.out.below hb)
  have HRL := Lib.hid (HR.out.below HQ.out.bel)
  clear hb cp
  cases v3
  · go_wp2_with fail
    refine (awake23_any _).mono ?_; rintro e w9 ⟨rfl, hb⟩
    have HQ := Lib.hid (HQ.out.below hb)
    clear hb
    go_wp2_with fail
    go_ret
    exact ⟨rfl, HQ.out.bel⟩
  have HQ4 := HQ
  go_wp2_with (at_builtin; refine wl_copy elemN encN rfl (.tmp 36) (.tmp 37) rfl rfl Al l cl rfl HRL.out (by omega) (by omega) ?_; intro A7 c7 w5 ho hb; have HK := Lib.hid (And.intro ho hb); have HQ := Lib.hid (HQ.out.below hb); have ccf := HQ.out.cf.cell; have con := HQ.out.on.cell; have cp := HQ.out.pb.cell; clear ho hb)
  refine (decide_any f l a b c p A7 c7 _ HK.out.1.toRds (fun x hx => (HW.out x hx).1) (by omega) HPW.out).mono ?_; rintro e w6 ⟨k, s, O, er, A1, c1, rfl, hv, ho, hb⟩
  have hO64 : O.length ≤ 64 := by have := hv.len2; omega
  have HX := Lib.hid (ho.alloc (.cells #[.int .i64 k, .int .i64 s, .slice A1 O.length c1] 36))
  have HSZ := Lib.hid HK.out.2.size
  have HK := Lib.hid (And.intro ((HK.out.1.below hb (Nat.le_refl _)).alloc (.cells #[.int .i64 k, .int .i64 s, .slice A1 O.length c1] 36)) ((below_rV HK.out.2 hb).alloc (below_rV HK.out.2 hb).size (.cells #[.int .i64 k, .int .i64 s, .slice A1 O.length c1] 36)))
  have HQ := Lib.hid ((HQ.out.below hb).alloc (.cells #[.int .i64 k, .int .i64 s, .slice A1 O.length c1] 36))
  have HV1 := Lib.hid (Blk.new w6 36 #[.int .i64 k, .int .i64 s, .slice A1 O.length c1])
  clear hv ho hb ccf con cp
  go_wp2_with fail
  generalize w6.alloc (.cells #[.int .i64 k, .int .i64 s, .slice A1 O.length c1] 36) = W6 at *
  generalize w6.heap.size = gv at *
  go_loopw [12] (fun ii wr => ∃ (i : Nat), i ≤ l.length ∧ ii = .int .i64 i ∧ Below W6.heap.size W6 wr) (fun ii _ => l.length - (intOf ii).toNat)
  case atStart => exact ⟨0, by omega, rfl, Below.refl _ _⟩
  case round =>
    obtain ⟨i, hi, rfl, hbl⟩ := hrel
    have HBL := Lib.hid hbl
    have HRo := Lib.hid (HK.out.1.toRds.below hbl)
    have HRi := Lib.hid ((HRL.out.below HK.out.2).below hbl)
    clear hbl
    by_cases hlt : i < l.length
    · have dk : decide ((i : Int) < (l.length : Int)) = true := decide_eq_true (by omega)
      have dk2 : (i : Int) < (l.length : Int) := by omega
      obtain ⟨b, off, hA, _⟩ := HR.out.en hlt
      obtain rfl : Al = some ⟨b, off, none⟩ := hA
      obtain ⟨bo, oo, hA, _⟩ := HRo.out.en hlt
      obtain rfl : A7 = some ⟨bo, oo, none⟩ := hA
      have HXI := Lib.hid (List.getElem?_eq_getElem hlt)
      generalize l[i] = x at *
      go_wp2_with fail
      have HBL := Lib.hid HBL.out.drew
      have HRo := Lib.hid HRo.out.drew
      have HRi := Lib.hid HRi.out.drew
      obtain ⟨x0, x1, x2, x3, x4, x5, x6, x7, x8, x9, x10, x11⟩ := HRo.out.enAt (Below.refl _ _) HXI.out
      obtain ⟨y0, y1, y2, y3, y4, y5, y6, y7, y8, y9, y10, y11⟩ := HRi.out.enAt (Below.refl _ _) HXI.out
      refine wp_region_held_drew (S := (fun w' => w'.cell? ⟨bo, oo + i * 12, none⟩ = some (.string x.pod.id) ∧ w'.cell? ⟨bo, oo + i * 12 + 1, none⟩ = some (.int .i64 x.pod.prio) ∧ w'.cell? ⟨bo, oo + i * 12 + 2, none⟩ = some (.bool x.pod.crit) ∧ w'.cell? ⟨bo, oo + i * 12 + 3, none⟩ = some (.int .i64 x.pod.q0) ∧ w'.cell? ⟨bo, oo + i * 12 + 4, none⟩ = some (.int .i64 x.pod.q1) ∧ w'.cell? ⟨bo, oo + i * 12 + 5, none⟩ = some (.int .i64 x.pod.q2) ∧ w'.cell? ⟨bo, oo + i * 12 + 6, none⟩ = some (.int .i64 x.pod.l0) ∧ w'.cell? ⟨bo, oo + i * 12 + 7, none⟩ = some (.int .i64 x.pod.l1) ∧ w'.cell? ⟨bo, oo + i * 12 + 8, none⟩ = some (.int .i64 x.pod.l2) ∧ w'.cell? ⟨bo, oo + i * 12 + 9, none⟩ = some (.string x.pod.image) ∧ w'.cell? ⟨bo, oo + i * 12 + 10, none⟩ = some (.int .i64 x.pod.size) ∧ w'.cell? ⟨bo, oo + i * 12 + 11, none⟩ = some (.int .i64 x.phase) ∧ w'.cell? ⟨b, off + i * 12, none⟩ = some (.string x.pod.id) ∧ w'.cell? ⟨b, off + i * 12 + 1, none⟩ = some (.int .i64 x.pod.prio) ∧ w'.cell? ⟨b, off + i * 12 + 2, none⟩ = some (.bool x.pod.crit) ∧ w'.cell? ⟨b, off + i * 12 + 3, none⟩ = some (.int .i64 x.pod.q0) ∧ w'.cell? ⟨b, off + i * 12 + 4, none⟩ = some (.int .i64 x.pod.q1) ∧ w'.cell? ⟨b, off + i * 12 + 5, none⟩ = some (.int .i64 x.pod.q2) ∧ w'.cell? ⟨b, off + i * 12 + 6, none⟩ = some (.int .i64 x.pod.l0) ∧ w'.cell? ⟨b, off + i * 12 + 7, none⟩ = some (.int .i64 x.pod.l1) ∧ w'.cell? ⟨b, off + i * 12 + 8, none⟩ = some (.int .i64 x.pod.l2) ∧ w'.cell? ⟨b, off + i * 12 + 9, none⟩ = some (.string x.pod.image) ∧ w'.cell? ⟨b, off + i * 12 + 10, none⟩ = some (.int .i64 x.pod.size) ∧ w'.cell? ⟨b, off + i * 12 + 11, none⟩ = some (.int .i64 x.phase))) (by kernel_rfl) (⟨x0, x1, x2, x3, x4, x5, x6, x7, x8, x9, x10, x11, y0, y1, y2, y3, y4, y5, y6, y7, y8, y9, y10, y11⟩) (fun hHeld => ?_)
      clear x0  x1  x2  x3  x4  x5  x6  x7  x8  x9  x10  x11 y0  y1  y2  y3  y4  y5  y6  y7  y8  y9  y10  y11
      refine held_take 0 53 (.slice (some ⟨bo, oo, none⟩) l.length c7) rfl rfl (by kernel_rfl) (by kernel_rfl) (by kernel_rfl) (fun _ _ _ h => h) (by rfl) (by intro w' hSw; (try dsimp only at hSw); go_simp; (try (with_reducible rfl))) (by assumption) ?_
      simp only [Act.put, List.setIfInBounds_toArray, List.set_cons_zero, List.set_cons_succ]
      refine held_take 1 54 (.int .i64 i) rfl rfl (by kernel_rfl) (by kernel_rfl) (by kernel_rfl) (fun _ _ _ h => h) (by rfl) (by intro w' hSw; (try dsimp only at hSw); go_simp; (try (with_reducible rfl))) (by assumption) ?_
      simp only [Act.put, List.setIfInBounds_toArray, List.set_cons_zero, List.set_cons_succ]
      refine held_take 2 55 (.pointer (some ⟨bo, oo + i * 12, none⟩)) rfl rfl (by kernel_rfl) (by kernel_rfl) (by kernel_rfl) (fun _ _ _ h => h) (by rfl) (by intro w' hSw; (try dsimp only at hSw); go_simp; (try (with_reducible rfl))) (by assumption) ?_
      simp only [Act.put, List.setIfInBounds_toArray, List.set_cons_zero, List.set_cons_succ]
      refine held_take 3 56 (.agg #[.string x.pod.id, .int .i64 x.pod.prio, .bool x.pod.crit, .int .i64 x.pod.q0, .int .i64 x.pod.q1, .int .i64 x.pod.q2, .int .i64 x.pod.l0, .int .i64 x.pod.l1, .int .i64 x.pod.l2, .string x.pod.image, .int .i64 x.pod.size, .int .i64 x.phase]) rfl rfl (by kernel_rfl) (by kernel_rfl) (by kernel_rfl) (fun _ _ _ h => h) (by rfl) (by intro w' hSw; (try dsimp only at hSw); go_simp; (try (with_reducible rfl))) (by assumption) ?_
      simp only [Act.put, List.setIfInBounds_toArray, List.set_cons_zero, List.set_cons_succ]
      refine held_take 4 57 (.slice (some ⟨b, off, none⟩) l.length cl) rfl rfl (by kernel_rfl) (by kernel_rfl) (by kernel_rfl) (fun _ _ _ h => h) (by rfl) (by intro w' hSw; (try dsimp only at hSw); go_simp; (try (with_reducible rfl))) (by assumption) ?_
      simp only [Act.put, List.setIfInBounds_toArray, List.set_cons_zero, List.set_cons_succ]
      refine held_take 5 58 (.int .i64 i) rfl rfl (by kernel_rfl) (by kernel_rfl) (by kernel_rfl) (fun _ _ _ h => h) (by rfl) (by intro w' hSw; (try dsimp only at hSw); go_simp; (try (with_reducible rfl))) (by assumption) ?_
      simp only [Act.put, List.setIfInBounds_toArray, List.set_cons_zero, List.set_cons_succ]
      refine held_take 6 59 (.pointer (some ⟨b, off + i * 12, none⟩)) rfl rfl (by kernel_rfl) (by kernel_rfl) (by kernel_rfl) (fun _ _ _ h => h) (by rfl) (by intro w' hSw; (try dsimp only at hSw); go_simp; (try (with_reducible rfl))) (by assumption) ?_
      simp only [Act.put, List.setIfInBounds_toArray, List.set_cons_zero, List.set_cons_succ]
      refine held_take 7 60 (.agg #[.string x.pod.id, .int .i64 x.pod.prio, .bool x.pod.crit, .int .i64 x.pod.q0, .int .i64 x.pod.q1, .int .i64 x.pod.q2, .int .i64 x.pod.l0, .int .i64 x.pod.l1, .int .i64 x.pod.l2, .string x.pod.image, .int .i64 x.pod.size, .int .i64 x.phase]) rfl rfl (by kernel_rfl) (by kernel_rfl) (by kernel_rfl) (fun _ _ _ h => h) (by rfl) (by intro w' hSw; (try dsimp only at hSw); go_simp; (try (with_reducible rfl))) (by assumption) ?_
      simp only [Act.put, List.setIfInBounds_toArray, List.set_cons_zero, List.set_cons_succ]
      refine held_take 8 61 (.bool false) rfl rfl (by kernel_rfl) (by kernel_rfl) (by kernel_rfl) (fun _ _ _ h => h) (by rfl) (by intro w' hSw; (try dsimp only at hSw); go_simp; (first | done | with_reducible rfl | (simp [eq3]; done))) (by assumption) ?_
      simp only [Act.put, List.setIfInBounds_toArray, List.set_cons_zero, List.set_cons_succ]
      refine wpAnyH_done (by kernel_rfl) ?_ _
      clear hHeld
      go_wp2_with fail
      go_roundw
      case rel => exact ⟨i + 1, by omega, by go_num, HBL.out⟩
      case measure => simp [intOf]; omega
    · obtain rfl : i = l.length := by omega
      have dk : decide ((l.length : Int) < (l.length : Int)) = false := by simp
      have HX := Lib.hid (HX.out.below HBL.out (Nat.le_refl _))
      have HK := Lib.hid (And.intro (HK.out.1.below HBL.out (Nat.le_refl _)) (below_rV HK.out.2 HBL.out))
      have HV1 := Lib.hid (HV1.out.belowAll HBL.out)
      clear HBL HRo HRi HQ
      go_wp2_with fail
      go_loopw [13] (fun ii wx => ∃ (j : Nat) (X : List ByteArray), j ≤ O.length ∧ ii = .int .i64 j ∧ X.length = O.length ∧ Own wx w5.heap.size 9 encS (.slice A1 O.length c1) X ∧ Own wx w4.heap.size 46 encN (.slice A7 l.length c7) l ∧ Below w4.heap.size w4 wx ∧ Blk wx gv 36 #[.int .i64 k, .int .i64 s, .slice A1 O.length c1]) (fun ii _ => O.length - (intOf ii).toNat)
      case atStart => exact ⟨0, O, by omega, rfl, rfl, HX.out, HK.out.1, HK.out.2, HV1.out⟩
      case round =>
        clear HX HK HV1
        obtain ⟨j, X, hk, rfl, hXl, hx, hown, hbl, hvb⟩ := hrel
        have HX := Lib.hid hx
        have HK := Lib.hid (And.intro hown hbl)
        have HXL := Lib.hid hXl
        have HV1 := Lib.hid hvb
        clear hx hown hbl hXl hvb
        by_cases hlt : j < O.length
        · have dk5 : decide ((j : Int) < (O.length : Int)) = true := decide_eq_true (by omega)
          have dk6 : (j : Int) < (O.length : Int) := by omega
          have hok : j < X.length := by rw [HXL.out]; exact hlt
          have hne : X ≠ [] := by intro e; rw [e] at hok; simp at hok
          have ha0 := HX.out
          rw [← HXL.out] at ha0
          obtain ⟨g, hA3, hge⟩ := own_some ha0 hne
          obtain rfl : A1 = some ⟨g, 0, none⟩ := hA3
          have z0 := own_cells ha0 hok 0 (.string X[j]) rfl
          rw [Nat.add_zero, Nat.mul_one] at z0
          have z1 := own_frozen ha0 rfl hne j
          have HN := Lib.hid (own_set1 ha0 hok ⟨#[63]⟩ (.string ⟨#[63]⟩) rfl)
          have HKN := Lib.hid (HK.out.1.setOther HN.out.2 ha0 rfl hne (by decide))
          have HBN := Lib.hid (HK.out.2.setCell (p := ⟨g, j, none⟩) (by have := HSZ.out; show w4.heap.size ≤ g; omega) (.string ⟨#[63]⟩))
          have HVN := Lib.hid (HV1.out.grown HN.out.2 (ha0.ne_blk HV1.out (by decide)))
          have HXN := Lib.hid (show (X.set j ⟨#[63]⟩).length = O.length from by rw [List.length_set]; exact HXL.out)
          clear ha0 hge hne
          generalize X[j] = xk at *
          have y2 := HV1.out.cell
          go_wp2_with fail
          go_roundw
          case rel => exact ⟨j + 1, X.set j ⟨#[63]⟩, by omega, by go_num, HXN.out, by have := HN.out.1; rw [HXL.out] at this; exact this, HKN.out, HBN.out, HVN.out⟩
          case measure => simp [intOf]; omega
        · obtain rfl : j = O.length := by omega
          have dk5 : decide ((O.length : Int) < (O.length : Int)) = false := by simp
          have HQ := Lib.hid (HQ4.out.below HK.out.2)
          have HRi := Lib.hid (HRL.out.below HK.out.2)
          have HRo := Lib.hid HK.out.1.toRds
          have y2 := HV1.out.cell
          clear HX HXL
          have ccf := HQ.out.cf.cell
          have con := HQ.out.on.cell
          have cp := HQ.out.pb.cell
          go_wp2_with fail
          clear y2
          refine (decide_any f l a b c p A7 c7 _ HRo.out (fun x hx => (HW.out x hx).1) (by omega) HPW.out).mono ?_; rintro e w7 ⟨k2, s2, O2, er2, A2, c2, rfl, hv, ho, hb⟩
          have HVV := Lib.hid hv
          have HOL2 := Lib.hid hv.len2
          have HQ := Lib.hid ((HQ.out.below hb).alloc (.cells #[.int .i64 k2, .int .i64 s2, .slice A2 O2.length c2] 36))
          have HRi := Lib.hid ((HRi.out.below hb).alloc (.cells #[.int .i64 k2, .int .i64 s2, .slice A2 O2.length c2] 36))
          have HO2 := Lib.hid (ho.toRds.alloc (.cells #[.int .i64 k2, .int .i64 s2, .slice A2 O2.length c2] 36))
          have HV2 := Lib.hid (Blk.new w7 36 #[.int .i64 k2, .int .i64 s2, .slice A2 O2.length c2])
          clear hv ho hb ccf con cp
          have ccf := HQ.out.cf.cell
          have con := HQ.out.on.cell
          have cp := HQ.out.pb.cell
          go_wp2_with fail
          refine (refDecide_any HVV.out HF.out HR0.out HSM.out Al cl _ HRi.out HW.out HPW.out).mono ?_; rintro e w8 ⟨A3, c3, rfl, ho, hb⟩
          have HQ := Lib.hid ((HQ.out.below hb).alloc (.cells #[.int .i64 k2, .int .i64 s2, .slice A3 O2.length c3] 36))
          have HO2 := Lib.hid ((HO2.out.below hb).alloc (.cells #[.int .i64 k2, .int .i64 s2, .slice A3 O2.length c3] 36))
          have HV2 := Lib.hid ((HV2.out.belowAll hb).alloc (.cells #[.int .i64 k2, .int .i64 s2, .slice A3 O2.length c3] 36))
          have HO3 := Lib.hid (ho.toRds.alloc (.cells #[.int .i64 k2, .int .i64 s2, .slice A3 O2.length c3] 36))
          have HV3 := Lib.hid (Blk.new w8 36 #[.int .i64 k2, .int .i64 s2, .slice A3 O2.length c3])
          clear ho hb ccf con cp
          have dee : (er2 == er2) = true := by simp
          have y2 := HV2.out.cell
          have y3 := HV3.out.cell
          go_wp2_with fail
          refine (same23_any k2 s2 O2 A2 A3 c2 c3 _ HO2.out HO3.out (by have := HOL2.out; omega)).mono ?_; rintro e wz ⟨rfl, hb⟩
          have HQ := Lib.hid (HQ.out.below hb)
          clear hb y2 y3
          go_wp2_with fail
          go_ret
          exact ⟨rfl, HQ.out.bel⟩
end Go.Proofs.YtlhmhcidknadmaaGreatDoor
