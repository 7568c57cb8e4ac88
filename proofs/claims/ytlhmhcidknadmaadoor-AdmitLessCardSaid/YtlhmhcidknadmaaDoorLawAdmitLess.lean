/- bilgelaw23.AdmitLess: where a pod is admitted and nobody goes, one that asks for less of all is, too. -/
import Derived.Test.YtlhmhcidknadmaaDoorALaw
import Derived.StillTailTactics
namespace Go.Proofs.YtlhmhcidknadmaaDoor
open Go.RowKit

theorem satAdd_less {a q q2 : Int} (h0 : 0 ≤ q2) (h : q2 ≤ q) : satAdd a q2 ≤ satAdd a q := by
  unfold satAdd nat0 most
  repeat' split
  all_goals omega
theorem bad_less {q q2 l : Int} (h0 : 0 ≤ q2) (h : q2 ≤ q) (hb : bad q l = false) : bad q2 l = false := by
  unfold bad at *
  simp only [Bool.or_eq_false_iff, Bool.and_eq_false_iff, decide_eq_false_iff_not] at *
  omega
def lessP (p : Pd) (a b c : Int) : Pd := ⟨p.id, p.prio, p.crit, a, b, c, p.l0, p.l1, p.l2, p.image, p.size⟩
structure LessOk (p : Pd) (a b c : Int) : Prop where
  a0 : 0 ≤ a
  a1 : a ≤ p.q0
  b0 : 0 ≤ b
  b1 : b ≤ p.q1
  c0 : 0 ≤ c
  c1 : c ≤ p.q2
theorem lessP_right {p : Pd} {a b c : Int} (h : LessOk p a b c) (hr : p.right = true) : (lessP p a b c).right = true := by
  unfold Pd.right Pd.amountsOk at hr ⊢
  simp only [Bool.and_eq_true, Bool.not_eq_true'] at hr ⊢
  obtain ⟨⟨h1, h2, h3⟩, h4⟩ := hr
  exact ⟨⟨bad_less h.a0 h.a1 h1, bad_less h.b0 h.b1 h2, bad_less h.c0 h.c1 h3⟩, h4⟩
theorem lessP_fits {room : S3} {L : List Pd} {p : Pd} {a b c : Int} (h : LessOk p a b c) (hf : fitsB room (L ++ [p]) = true) : fitsB room (L ++ [lessP p a b c]) = true := by
  unfold fitsB at *
  have e : ∀ q : Pd, sumsOf (L ++ [q]) = (sumsOf L).add q := fun q => by unfold sumsOf; rw [List.foldl_append]; rfl
  rw [e] at hf ⊢
  exact fits_mono (t := (sumsOf L).add p) ⟨satAdd_less h.a0 h.a1, satAdd_less h.b0 h.b1, satAdd_less h.c0 h.c1⟩ (S3.add_bd _ _) hf
theorem all_fit {room : S3} {p : Pd} {L : List Pd} {O : List ByteArray} (h : WhoD room p L O true) (hO : O = []) : fitsB room (L ++ [p]) = true := by
  obtain ⟨K, hk, _, hf, h1, _⟩ := h
  have h2 := (h1 rfl).1
  rw [hO] at h2
  have h3 := (chooseD_none room K (stayD p L) hf).1 (List.nil_perm.1 h2)
  rw [fitsB_perm ((hk.append_left _).trans (stay_ask p L))] at h3
  exact h3
theorem fit_all {room : S3} {p : Pd} {L : List Pd} {O : List ByteArray} {bb : Bool} (h : WhoD room p L O bb) (hf : fitsB room (L ++ [p]) = true) : bb = true ∧ O = [] := by
  obtain ⟨K, hk, _, hf2, h1, _⟩ := h
  have h3 : fitsB room (stayD p L ++ K) = true := by rw [fitsB_perm ((hk.append_left _).trans (stay_ask p L))]; exact hf
  have h4 := fitsB_left h3
  have hb : bb = true := by rw [← hf2]; exact h4
  refine ⟨hb, ?_⟩
  have h5 := (h1 hb).1
  rw [(chooseD_none room K (stayD p L) h4).2 h3, List.perm_nil] at h5
  exact h5
theorem bar_none (p : Pd) : (barD false false false p).2 = false := by unfold barD; split <;> simp
theorem verD_less {room : S3} {l : List En} {p : Pd} {a b c s s2 k2 err2 : Int} {O O2 : List ByteArray} (h : LessOk p a b c) (h1 : VerD room p l false false false 1 s O 0) (h2 : VerD room (lessP p a b c) l false false false k2 s2 O2 err2) : k2 = 1 ∧ err2 = 0 := by
  rcases h1 with ⟨_, h, _⟩ | ⟨_, _, h, _⟩ | ⟨_, _, _, h, _⟩ | ⟨_, _, _, _, h, _⟩ | ⟨hr, hne, hl, _, _, _, bb, hwho, hk⟩
  · omega
  · omega
  · omega
  · omega
  · cases bb
    · simp at hk
    · by_cases hO : O = []
      · have hf := lessP_fits h (all_fit hwho hO)
        have hr2 := lessP_right h hr
        rcases h2 with ⟨h3, _⟩ | ⟨_, h3, _⟩ | ⟨_, _, h3, _⟩ | ⟨_, _, _, h3, _⟩ | ⟨_, _, _, _, _, he, bb2, hwho2, hk2⟩
        · rw [hr2] at h3; cases h3
        · rw [show (lessP p a b c).id = p.id from rfl, hne] at h3; cases h3
        · omega
        · rw [bar_none] at h3; cases h3
        · obtain ⟨rfl, rfl⟩ := fit_all hwho2 hf
          exact ⟨by simpa using hk2, he⟩
      · rw [if_neg (by simp), if_neg hO] at hk; omega
structure LL (f : Cf) (p : Pd) (a b c m0 m1 m2 : Int) (w W : World) : Prop where
  cf : Blk W (w.heap.size) 25 #[.int .i64 f.cap.a, .int .i64 f.cap.b, .int .i64 f.cap.c, .int .i64 f.room.a, .int .i64 f.room.b, .int .i64 f.room.c, .slice f.A f.ts.length f.n, .int .i64 f.per, .int .i64 f.ret, .int .i64 f.age, .int .i64 f.dead]
  pb : Blk W (w.heap.size + 1) 29 #[.string p.id, .int .i64 p.prio, .bool p.crit, .int .i64 a, .int .i64 b, .int .i64 c, .int .i64 p.l0, .int .i64 p.l1, .int .i64 p.l2, .string p.image, .int .i64 p.size]
  mo : Blk W (w.heap.size + 1 + 1) 55 #[.int .u16 m0, .int .u16 m1, .int .u16 m2]
  bel : Below w.heap.size w W
theorem LL.below {f : Cf} {p : Pd} {a b c m0 m1 m2 : Int} {w W W' : World} (h : LL f p a b c m0 m1 m2 w W) (hb : Below W.heap.size W W') : LL f p a b c m0 m1 m2 w W' := ⟨h.cf.belowAll hb, h.pb.belowAll hb, h.mo.belowAll hb, h.bel.trans (hb.mono h.bel.size)⟩
theorem LL.alloc {f : Cf} {p : Pd} {a b c m0 m1 m2 : Int} {w W : World} (h : LL f p a b c m0 m1 m2 w W) (o : Obj) : LL f p a b c m0 m1 m2 w (W.alloc o) := ⟨h.cf.alloc o, h.pb.alloc o, h.mo.alloc o, h.bel.alloc h.bel.size o⟩
theorem LL.drew {f : Cf} {p : Pd} {a b c m0 m1 m2 : Int} {w W : World} (h : LL f p a b c m0 m1 m2 w W) : LL f p a b c m0 m1 m2 w W.drew := ⟨h.cf.drew, h.pb.drew, h.mo.drew, h.bel.drew⟩
theorem LL.new (f : Cf) (p : Pd) (a b c m0 m1 m2 : Int) (w : World) : LL f p a b c m0 m1 m2 w (((w.alloc (.cells #[.int .i64 f.cap.a, .int .i64 f.cap.b, .int .i64 f.cap.c, .int .i64 f.room.a, .int .i64 f.room.b, .int .i64 f.room.c, .slice f.A f.ts.length f.n, .int .i64 f.per, .int .i64 f.ret, .int .i64 f.age, .int .i64 f.dead] 25)).alloc (.cells #[.string p.id, .int .i64 p.prio, .bool p.crit, .int .i64 a, .int .i64 b, .int .i64 c, .int .i64 p.l0, .int .i64 p.l1, .int .i64 p.l2, .string p.image, .int .i64 p.size] 29)).alloc (.cells #[.int .u16 m0, .int .u16 m1, .int .u16 m2] 55)) := by
  have z1 : (w.alloc (.cells #[.int .i64 f.cap.a, .int .i64 f.cap.b, .int .i64 f.cap.c, .int .i64 f.room.a, .int .i64 f.room.b, .int .i64 f.room.c, .slice f.A f.ts.length f.n, .int .i64 f.per, .int .i64 f.ret, .int .i64 f.age, .int .i64 f.dead] 25)).heap.size = w.heap.size + 1 := by simp
  have z2 : ((w.alloc (.cells #[.int .i64 f.cap.a, .int .i64 f.cap.b, .int .i64 f.cap.c, .int .i64 f.room.a, .int .i64 f.room.b, .int .i64 f.room.c, .slice f.A f.ts.length f.n, .int .i64 f.per, .int .i64 f.ret, .int .i64 f.age, .int .i64 f.dead] 25)).alloc (.cells #[.string p.id, .int .i64 p.prio, .bool p.crit, .int .i64 a, .int .i64 b, .int .i64 c, .int .i64 p.l0, .int .i64 p.l1, .int .i64 p.l2, .string p.image, .int .i64 p.size] 29)).heap.size = w.heap.size + 1 + 1 := by simp
  have b0 := Blk.new w 25 #[.int .i64 f.cap.a, .int .i64 f.cap.b, .int .i64 f.cap.c, .int .i64 f.room.a, .int .i64 f.room.b, .int .i64 f.room.c, .slice f.A f.ts.length f.n, .int .i64 f.per, .int .i64 f.ret, .int .i64 f.age, .int .i64 f.dead]
  have b1 := Blk.new (w.alloc (.cells #[.int .i64 f.cap.a, .int .i64 f.cap.b, .int .i64 f.cap.c, .int .i64 f.room.a, .int .i64 f.room.b, .int .i64 f.room.c, .slice f.A f.ts.length f.n, .int .i64 f.per, .int .i64 f.ret, .int .i64 f.age, .int .i64 f.dead] 25)) 29 #[.string p.id, .int .i64 p.prio, .bool p.crit, .int .i64 a, .int .i64 b, .int .i64 c, .int .i64 p.l0, .int .i64 p.l1, .int .i64 p.l2, .string p.image, .int .i64 p.size]
  rw [z1] at b1
  have b2 := Blk.new ((w.alloc (.cells #[.int .i64 f.cap.a, .int .i64 f.cap.b, .int .i64 f.cap.c, .int .i64 f.room.a, .int .i64 f.room.b, .int .i64 f.room.c, .slice f.A f.ts.length f.n, .int .i64 f.per, .int .i64 f.ret, .int .i64 f.age, .int .i64 f.dead] 25)).alloc (.cells #[.string p.id, .int .i64 p.prio, .bool p.crit, .int .i64 a, .int .i64 b, .int .i64 c, .int .i64 p.l0, .int .i64 p.l1, .int .i64 p.l2, .string p.image, .int .i64 p.size] 29)) 55 #[.int .u16 m0, .int .u16 m1, .int .u16 m2]
  rw [z2] at b2
  have bel : Below w.heap.size w (((w.alloc (.cells #[.int .i64 f.cap.a, .int .i64 f.cap.b, .int .i64 f.cap.c, .int .i64 f.room.a, .int .i64 f.room.b, .int .i64 f.room.c, .slice f.A f.ts.length f.n, .int .i64 f.per, .int .i64 f.ret, .int .i64 f.age, .int .i64 f.dead] 25)).alloc (.cells #[.string p.id, .int .i64 p.prio, .bool p.crit, .int .i64 a, .int .i64 b, .int .i64 c, .int .i64 p.l0, .int .i64 p.l1, .int .i64 p.l2, .string p.image, .int .i64 p.size] 29)).alloc (.cells #[.int .u16 m0, .int .u16 m1, .int .u16 m2] 55)) := (((Below.refl w.heap.size w).alloc (Nat.le_refl _) _).alloc (by rw [z1]; omega) _).alloc (by rw [z2]; omega) _
  exact ⟨((b0.alloc _).alloc _), (b1.alloc _), b2, bel⟩

set_option maxRecDepth 100000 in
set_option maxHeartbeats 16000000 in
theorem admitLess_any (f : Cf) (l : List En) (p : Pd) (m0 m1 m2 : Int) (Al : Option Addr) (cl : Nat) (w : World) (hr : Rds w encN Al l) (hw : ∀ x ∈ l, x.pod.Wf ∧ I64 x.phase) (hm : l.length ≤ 9223372036854775807) (hp : p.Wf) (hrt : Rds w encT f.A f.ts) (hnt : f.ts.length ≤ 9223372036854775807) (hm0 : 0 ≤ m0 ∧ m0 ≤ 65535) (hm1 : 0 ≤ m1 ∧ m1 ≤ 65535) (hm2 : 0 ≤ m2 ∧ m2 ≤ 65535) :
    Calls Tryd.prog 7 #[.agg f.cells, .slice Al l.length cl, .agg p.cells, .agg #[.int .u16 m0, .int .u16 m1, .int .u16 m2]] w fun e w' => e = .returned (.bool true) ∧ Below w.heap.size w w' := by
  have mixed : Tryd.prog.follows Departure.mixedOrders = true := by kernel_rfl
  have HQ := Lib.hid (LL.new f p p.q0 p.q1 p.q2 m0 m1 m2 w)
  have HR := Lib.hid hr
  have HW := Lib.hid hw
  have HPW := Lib.hid hp
  have HRT := Lib.hid hrt
  clear hr hw hp hrt
  go_enter Tryd.func7, Tryd.ntmps7
  go_wp2_with fail
  refine (awake23_any _).mono ?_; rintro e w1 ⟨rfl, hb⟩
  have HQ := Lib.hid (HQ.out.below hb)
  clear hb
  have ccf := HQ.out.cf.cell
  go_wp2_with fail
  refine (right07_any f _ (HRT.out.below HQ.out.bel) hnt).mono ?_; rintro e w2 ⟨v1, rfl, hv1, hb⟩
  have HQ := Lib.hid (HQ.out.below hb)
  have HV1 := Lib.hid hv1
  clear hb hv1 ccf
  cases v1
  · go_wp2_with fail
    refine (awake23_any _).mono ?_; rintro e w9 ⟨rfl, hb⟩
    have HQ := Lib.hid (HQ.out.below hb)
    clear hb
    go_wp2_with fail
    go_ret
    exact ⟨rfl, HQ.out.bel⟩
  have HR0 : Hid (Room0 f) := HV1.out rfl
  clear HV1
  by_cases hf : FitE l
  rotate_left
  · go_wp2_with fail
    refine (fit20V_any (v := false) (by simp [hf]) Al cl _ (HR.out.below HQ.out.bel) HW.out hm).mono ?_; rintro e w3 ⟨rfl, hb⟩
    have HQ := Lib.hid (HQ.out.below hb)
    clear hb hf
    go_wp2_with fail
    refine (awake23_any _).mono ?_; rintro e w9 ⟨rfl, hb⟩
    have HQ := Lib.hid (HQ.out.below hb)
    clear hb
    go_wp2_with fail
    go_ret
    exact ⟨rfl, HQ.out.bel⟩
  have HF := Lib.hid hf
  have hl := hf.len
  go_wp2_with fail
  refine (fit20V_any (v := true) (by simp [hf]) Al cl _ (HR.out.below HQ.out.bel) HW.out hm).mono ?_; rintro e w3 ⟨rfl, hb⟩
  have HQ := Lib.hid (HQ.out.below hb)
  clear hb hf
  have cp := HQ.out.pb.cell
  go_wp2_with fail
  obtain ⟨v3, hv3⟩ : ∃ v, p.small = v := ⟨_, rfl⟩
  have HSM := Lib.hid hv3
  clear hv3
  refine (smallV_any HSM.out _).mono ?_; rintro e w4 ⟨rfl, hb⟩
  have HQ := Lib.hid (HQ.out.below hb)
  have HRL := Lib.hid (HR.out.below HQ.out.bel)
  clear hb cp
  cases v3
  · go_wp2_with fail
    refine (awake23_any _).mono ?_; rintro e w9 ⟨rfl, hb⟩
    have HQ := Lib.hid (HQ.out.below hb)
    clear hb
    go_wp2_with fail
    go_ret
    exact ⟨rfl, HQ.out.bel⟩
  have ccf := HQ.out.cf.cell
  have cp := HQ.out.pb.cell
  go_wp2_with fail
  refine (decide_any f l false false false p Al cl _ HRL.out (fun x hx => (HW.out x hx).1) hm HPW.out).mono ?_; rintro e w5 ⟨k, s, O, err, Ax, cx, rfl, hv, ho, hb⟩
  have HVV := Lib.hid hv
  have HQ := Lib.hid ((HQ.out.below hb).alloc (.cells #[.int .i64 k, .int .i64 s, .slice Ax O.length cx] 36))
  clear hv ho hb ccf cp
  by_cases hk1 : err = 0 ∧ k = 1
  rotate_left
  · by_cases he : err = 0
    · have dk : (k == 1) = false := by simp; exact fun h => hk1 ⟨he, h⟩
      obtain rfl : err = 0 := he
      clear HVV hk1
      go_wp2_with fail
      go_ret
      exact ⟨rfl, HQ.out.bel⟩
    · have de : (err == 0) = false := by simpa using he
      clear HVV hk1 he
      go_wp2_with fail
      go_ret
      exact ⟨rfl, HQ.out.bel⟩
  · obtain ⟨rfl, rfl⟩ := hk1
    have hrp : p.right = true := by
      rcases HVV.out with ⟨_, h, _⟩ | ⟨h, _⟩ | ⟨h, _⟩ | ⟨h, _⟩ | ⟨h, _⟩
      · omega
      all_goals exact h
    have hq := right_q hrp
    have HOK : Hid (LessOk p p.q0 p.q1 p.q2) := ⟨hq.1, Int.le_refl _, hq.2.1, Int.le_refl _, hq.2.2, Int.le_refl _⟩
    clear hq hrp
    go_wp2_with fail
    go_loopw [11] (fun kk wr => ∃ (k : Nat) (a b c : Int), k ≤ 3 ∧ kk = .int .i64 k ∧ LessOk p a b c ∧ LL f p a b c m0 m1 m2 w wr) (fun kk _ => 3 - (intOf kk).toNat)
    case atStart => exact ⟨0, p.q0, p.q1, p.q2, by omega, rfl, HOK.out, HQ.out⟩
    case round =>
      clear HOK HQ
      obtain ⟨k, a, b, c, hk, rfl, hok, hq⟩ := hrel
      have HOK := Lib.hid hok
      have HQ := Lib.hid hq
      clear hq
      obtain rfl | rfl | rfl | rfl : k = 0 ∨ k = 1 ∨ k = 2 ∨ k = 3 := by omega
      · by_cases hlo : m0 ≤ a
        · have HG := Lib.hid hlo
          have hwm : IntKind.i64.wrap m0 = m0 := by rw [IntKind.wrap_i64]; omega
          have HI := Lib.hid (HPW.out.q0.2)
          have hws : IntKind.i64.wrap (a - m0) = a - m0 := by have := HI.out; have := hok.a0; have := hok.a1; rw [IntKind.wrap_i64]; omega
          have HOK2 : Hid (LessOk p (a - m0) b c) := ⟨by omega, by have := hok.a1; omega, hok.b0, hok.b1, hok.c0, hok.c1⟩
          clear hlo hok
          go_wp2_with fail
          have HQ := Lib.hid HQ.out.drew
          refine wp_region_held_drew (S := (fun w' => w'.cell? ⟨w.heap.size + 1, 3, none⟩ = some (.int .i64 a) ∧ w'.cell? ⟨w.heap.size + 1 + 1, 0, none⟩ = some (.int .u16 m0))) (by kernel_rfl) (⟨HQ.out.pb.cell 3, HQ.out.mo.cell 0⟩) (fun hHeld => ?_)
          refine held_take 0 51 (.int .i64 0) rfl rfl (by kernel_rfl) (by kernel_rfl) (by kernel_rfl) (fun _ _ _ h => h) (by rfl) (by intro w' hSw; (try dsimp only at hSw); go_simp; (try (with_reducible rfl))) (by assumption) ?_
          simp only [Act.put, List.setIfInBounds_toArray, List.set_cons_zero, List.set_cons_succ]
          refine held_take 1 52 (.pointer (some ⟨w.heap.size + 1, 3, none⟩)) rfl rfl (by kernel_rfl) (by kernel_rfl) (by kernel_rfl) (fun _ _ _ h => h) (by rfl) (by intro w' hSw; (try dsimp only at hSw); go_simp; (try (with_reducible rfl))) (by assumption) ?_
          simp only [Act.put, List.setIfInBounds_toArray, List.set_cons_zero, List.set_cons_succ]
          refine held_take 2 53 (.pointer (some ⟨w.heap.size + 1, 3, none⟩)) rfl rfl (by kernel_rfl) (by kernel_rfl) (by kernel_rfl) (fun _ _ _ h => h) (by rfl) (by intro w' hSw; (try dsimp only at hSw); go_simp; (try (with_reducible rfl))) (by assumption) ?_
          simp only [Act.put, List.setIfInBounds_toArray, List.set_cons_zero, List.set_cons_succ]
          refine held_take 3 54 (.int .i64 a) rfl rfl (by kernel_rfl) (by kernel_rfl) (by kernel_rfl) (fun _ _ _ h => h) (by rfl) (by intro w' hSw; (try dsimp only at hSw); go_simp; (try (with_reducible rfl))) (by assumption) ?_
          simp only [Act.put, List.setIfInBounds_toArray, List.set_cons_zero, List.set_cons_succ]
          refine held_take 4 55 (.int .i64 0) rfl rfl (by kernel_rfl) (by kernel_rfl) (by kernel_rfl) (fun _ _ _ h => h) (by rfl) (by intro w' hSw; (try dsimp only at hSw); go_simp; (try (with_reducible rfl))) (by assumption) ?_
          simp only [Act.put, List.setIfInBounds_toArray, List.set_cons_zero, List.set_cons_succ]
          refine held_take 5 56 (.pointer (some ⟨w.heap.size + 1 + 1, 0, none⟩)) rfl rfl (by kernel_rfl) (by kernel_rfl) (by kernel_rfl) (fun _ _ _ h => h) (by rfl) (by intro w' hSw; (try dsimp only at hSw); go_simp; (try (with_reducible rfl))) (by assumption) ?_
          simp only [Act.put, List.setIfInBounds_toArray, List.set_cons_zero, List.set_cons_succ]
          refine held_take 6 57 (.int .u16 m0) rfl rfl (by kernel_rfl) (by kernel_rfl) (by kernel_rfl) (fun _ _ _ h => h) (by rfl) (by intro w' hSw; (try dsimp only at hSw); go_simp; (try (with_reducible rfl))) (by assumption) ?_
          simp only [Act.put, List.setIfInBounds_toArray, List.set_cons_zero, List.set_cons_succ]
          refine held_take 7 58 (.int .i64 m0) rfl rfl (by kernel_rfl) (by kernel_rfl) (by kernel_rfl) (fun _ _ _ h => h) (by rfl) (by intro w' hSw; (try dsimp only at hSw); go_simp; (try (with_reducible rfl))) (by assumption) ?_
          simp only [Act.put, List.setIfInBounds_toArray, List.set_cons_zero, List.set_cons_succ]
          refine held_take 8 59 (.bool true) rfl rfl (by kernel_rfl) (by kernel_rfl) (by kernel_rfl) (fun _ _ _ h => h) (by rfl) (by intro w' hSw; (try dsimp only at hSw); go_simp; (first | done | with_reducible rfl | (have hh := HG.out; first | omega | (simp; omega)))) (by assumption) ?_
          simp only [Act.put, List.setIfInBounds_toArray, List.set_cons_zero, List.set_cons_succ]
          refine wpAnyH_done (by kernel_rfl) ?_ _
          clear hHeld
          go_wp2_with fail
          generalize wr.drew = W9 at HQ ⊢
          have HQd0 := HQ.out.drew
          refine wp_region_still_tail 12 (by kernel_rfl) (by kernel_rfl) ?_
          simp only [List.take_succ_cons, List.take_zero, List.drop_succ_cons, List.drop_zero]
          obtain ⟨Wd, hWd⟩ : ∃ Wd : World, Wd = W9.drew := ⟨_, rfl⟩
          rw [← hWd] at HQd0
          have HQd := Lib.hid HQd0
          have k0 : Wd.cell? ⟨w.heap.size + 1, 3, none⟩ = some (.int .i64 a) := HQd0.pb.cell 3
          have k1 : Wd.cell? ⟨w.heap.size + 1 + 1, 0, none⟩ = some (.int .u16 m0) := HQd0.mo.cell 0
          have k2 : Wd.frozen? ⟨w.heap.size + 1, 3, none⟩ = false := HQd0.pb.frozen 3
          have e0 : W9.drew = Wd := hWd.symm
          unfold World.drew at e0
          rw [e0]
          clear hWd e0 HQd0
          repeat still_step
          refine wpStill_nil ?_
          have HN : Hid (LL f p (a - m0) b c m0 m1 m2 w (Wd.setCell ⟨w.heap.size + 1, 3, none⟩ (.int .i64 (a - m0)))) := ⟨HQd.out.cf.far (by show w.heap.size ≠ w.heap.size + 1; omega) _, HQd.out.pb.set_ 3 _, HQd.out.mo.far (by show w.heap.size + 1 + 1 ≠ w.heap.size + 1; omega) _, HQd.out.bel.setCell (by show w.heap.size ≤ w.heap.size + 1; omega) _⟩
          go_wp2_with fail
          go_roundw
          case rel => exact ⟨1, (a - m0), b, c, by omega, by rfl, HOK2.out, HN.out⟩
          case measure => simp [intOf]
        · have HG := Lib.hid hlo
          have hwm : IntKind.i64.wrap m0 = m0 := by rw [IntKind.wrap_i64]; omega
          clear hlo hok
          go_wp2_with fail
          have HQ := Lib.hid HQ.out.drew
          refine wp_region_held_drew (S := (fun w' => w'.cell? ⟨w.heap.size + 1, 3, none⟩ = some (.int .i64 a) ∧ w'.cell? ⟨w.heap.size + 1 + 1, 0, none⟩ = some (.int .u16 m0))) (by kernel_rfl) (⟨HQ.out.pb.cell 3, HQ.out.mo.cell 0⟩) (fun hHeld => ?_)
          refine held_take 0 51 (.int .i64 0) rfl rfl (by kernel_rfl) (by kernel_rfl) (by kernel_rfl) (fun _ _ _ h => h) (by rfl) (by intro w' hSw; (try dsimp only at hSw); go_simp; (try (with_reducible rfl))) (by assumption) ?_
          simp only [Act.put, List.setIfInBounds_toArray, List.set_cons_zero, List.set_cons_succ]
          refine held_take 1 52 (.pointer (some ⟨w.heap.size + 1, 3, none⟩)) rfl rfl (by kernel_rfl) (by kernel_rfl) (by kernel_rfl) (fun _ _ _ h => h) (by rfl) (by intro w' hSw; (try dsimp only at hSw); go_simp; (try (with_reducible rfl))) (by assumption) ?_
          simp only [Act.put, List.setIfInBounds_toArray, List.set_cons_zero, List.set_cons_succ]
          refine held_take 2 53 (.pointer (some ⟨w.heap.size + 1, 3, none⟩)) rfl rfl (by kernel_rfl) (by kernel_rfl) (by kernel_rfl) (fun _ _ _ h => h) (by rfl) (by intro w' hSw; (try dsimp only at hSw); go_simp; (try (with_reducible rfl))) (by assumption) ?_
          simp only [Act.put, List.setIfInBounds_toArray, List.set_cons_zero, List.set_cons_succ]
          refine held_take 3 54 (.int .i64 a) rfl rfl (by kernel_rfl) (by kernel_rfl) (by kernel_rfl) (fun _ _ _ h => h) (by rfl) (by intro w' hSw; (try dsimp only at hSw); go_simp; (try (with_reducible rfl))) (by assumption) ?_
          simp only [Act.put, List.setIfInBounds_toArray, List.set_cons_zero, List.set_cons_succ]
          refine held_take 4 55 (.int .i64 0) rfl rfl (by kernel_rfl) (by kernel_rfl) (by kernel_rfl) (fun _ _ _ h => h) (by rfl) (by intro w' hSw; (try dsimp only at hSw); go_simp; (try (with_reducible rfl))) (by assumption) ?_
          simp only [Act.put, List.setIfInBounds_toArray, List.set_cons_zero, List.set_cons_succ]
          refine held_take 5 56 (.pointer (some ⟨w.heap.size + 1 + 1, 0, none⟩)) rfl rfl (by kernel_rfl) (by kernel_rfl) (by kernel_rfl) (fun _ _ _ h => h) (by rfl) (by intro w' hSw; (try dsimp only at hSw); go_simp; (try (with_reducible rfl))) (by assumption) ?_
          simp only [Act.put, List.setIfInBounds_toArray, List.set_cons_zero, List.set_cons_succ]
          refine held_take 6 57 (.int .u16 m0) rfl rfl (by kernel_rfl) (by kernel_rfl) (by kernel_rfl) (fun _ _ _ h => h) (by rfl) (by intro w' hSw; (try dsimp only at hSw); go_simp; (try (with_reducible rfl))) (by assumption) ?_
          simp only [Act.put, List.setIfInBounds_toArray, List.set_cons_zero, List.set_cons_succ]
          refine held_take 7 58 (.int .i64 m0) rfl rfl (by kernel_rfl) (by kernel_rfl) (by kernel_rfl) (fun _ _ _ h => h) (by rfl) (by intro w' hSw; (try dsimp only at hSw); go_simp; (try (with_reducible rfl))) (by assumption) ?_
          simp only [Act.put, List.setIfInBounds_toArray, List.set_cons_zero, List.set_cons_succ]
          refine held_take 8 59 (.bool false) rfl rfl (by kernel_rfl) (by kernel_rfl) (by kernel_rfl) (fun _ _ _ h => h) (by rfl) (by intro w' hSw; (try dsimp only at hSw); go_simp; (first | done | with_reducible rfl | (have hh := HG.out; first | omega | (simp; omega)))) (by assumption) ?_
          simp only [Act.put, List.setIfInBounds_toArray, List.set_cons_zero, List.set_cons_succ]
          refine wpAnyH_done (by kernel_rfl) ?_ _
          clear hHeld
          go_wp2_with fail
          go_roundw
          case rel => exact ⟨1, a, b, c, by omega, by rfl, HOK.out, HQ.out⟩
          case measure => simp [intOf]
      · by_cases hlo : m1 ≤ b
        · have HG := Lib.hid hlo
          have hwm : IntKind.i64.wrap m1 = m1 := by rw [IntKind.wrap_i64]; omega
          have HI := Lib.hid (HPW.out.q1.2)
          have hws : IntKind.i64.wrap (b - m1) = b - m1 := by have := HI.out; have := hok.b0; have := hok.b1; rw [IntKind.wrap_i64]; omega
          have HOK2 : Hid (LessOk p a (b - m1) c) := ⟨hok.a0, hok.a1, by omega, by have := hok.b1; omega, hok.c0, hok.c1⟩
          clear hlo hok
          go_wp2_with fail
          have HQ := Lib.hid HQ.out.drew
          refine wp_region_held_drew (S := (fun w' => w'.cell? ⟨w.heap.size + 1, 4, none⟩ = some (.int .i64 b) ∧ w'.cell? ⟨w.heap.size + 1 + 1, 1, none⟩ = some (.int .u16 m1))) (by kernel_rfl) (⟨HQ.out.pb.cell 4, HQ.out.mo.cell 1⟩) (fun hHeld => ?_)
          refine held_take 0 51 (.int .i64 1) rfl rfl (by kernel_rfl) (by kernel_rfl) (by kernel_rfl) (fun _ _ _ h => h) (by rfl) (by intro w' hSw; (try dsimp only at hSw); go_simp; (try (with_reducible rfl))) (by assumption) ?_
          simp only [Act.put, List.setIfInBounds_toArray, List.set_cons_zero, List.set_cons_succ]
          refine held_take 1 52 (.pointer (some ⟨w.heap.size + 1, 3, none⟩)) rfl rfl (by kernel_rfl) (by kernel_rfl) (by kernel_rfl) (fun _ _ _ h => h) (by rfl) (by intro w' hSw; (try dsimp only at hSw); go_simp; (try (with_reducible rfl))) (by assumption) ?_
          simp only [Act.put, List.setIfInBounds_toArray, List.set_cons_zero, List.set_cons_succ]
          refine held_take 2 53 (.pointer (some ⟨w.heap.size + 1, 4, none⟩)) rfl rfl (by kernel_rfl) (by kernel_rfl) (by kernel_rfl) (fun _ _ _ h => h) (by rfl) (by intro w' hSw; (try dsimp only at hSw); go_simp; (try (with_reducible rfl))) (by assumption) ?_
          simp only [Act.put, List.setIfInBounds_toArray, List.set_cons_zero, List.set_cons_succ]
          refine held_take 3 54 (.int .i64 b) rfl rfl (by kernel_rfl) (by kernel_rfl) (by kernel_rfl) (fun _ _ _ h => h) (by rfl) (by intro w' hSw; (try dsimp only at hSw); go_simp; (try (with_reducible rfl))) (by assumption) ?_
          simp only [Act.put, List.setIfInBounds_toArray, List.set_cons_zero, List.set_cons_succ]
          refine held_take 4 55 (.int .i64 1) rfl rfl (by kernel_rfl) (by kernel_rfl) (by kernel_rfl) (fun _ _ _ h => h) (by rfl) (by intro w' hSw; (try dsimp only at hSw); go_simp; (try (with_reducible rfl))) (by assumption) ?_
          simp only [Act.put, List.setIfInBounds_toArray, List.set_cons_zero, List.set_cons_succ]
          refine held_take 5 56 (.pointer (some ⟨w.heap.size + 1 + 1, 1, none⟩)) rfl rfl (by kernel_rfl) (by kernel_rfl) (by kernel_rfl) (fun _ _ _ h => h) (by rfl) (by intro w' hSw; (try dsimp only at hSw); go_simp; (try (with_reducible rfl))) (by assumption) ?_
          simp only [Act.put, List.setIfInBounds_toArray, List.set_cons_zero, List.set_cons_succ]
          refine held_take 6 57 (.int .u16 m1) rfl rfl (by kernel_rfl) (by kernel_rfl) (by kernel_rfl) (fun _ _ _ h => h) (by rfl) (by intro w' hSw; (try dsimp only at hSw); go_simp; (try (with_reducible rfl))) (by assumption) ?_
          simp only [Act.put, List.setIfInBounds_toArray, List.set_cons_zero, List.set_cons_succ]
          refine held_take 7 58 (.int .i64 m1) rfl rfl (by kernel_rfl) (by kernel_rfl) (by kernel_rfl) (fun _ _ _ h => h) (by rfl) (by intro w' hSw; (try dsimp only at hSw); go_simp; (try (with_reducible rfl))) (by assumption) ?_
          simp only [Act.put, List.setIfInBounds_toArray, List.set_cons_zero, List.set_cons_succ]
          refine held_take 8 59 (.bool true) rfl rfl (by kernel_rfl) (by kernel_rfl) (by kernel_rfl) (fun _ _ _ h => h) (by rfl) (by intro w' hSw; (try dsimp only at hSw); go_simp; (first | done | with_reducible rfl | (have hh := HG.out; first | omega | (simp; omega)))) (by assumption) ?_
          simp only [Act.put, List.setIfInBounds_toArray, List.set_cons_zero, List.set_cons_succ]
          refine wpAnyH_done (by kernel_rfl) ?_ _
          clear hHeld
          go_wp2_with fail
          generalize wr.drew = W9 at HQ ⊢
          have HQd0 := HQ.out.drew
          refine wp_region_still_tail 12 (by kernel_rfl) (by kernel_rfl) ?_
          simp only [List.take_succ_cons, List.take_zero, List.drop_succ_cons, List.drop_zero]
          obtain ⟨Wd, hWd⟩ : ∃ Wd : World, Wd = W9.drew := ⟨_, rfl⟩
          rw [← hWd] at HQd0
          have HQd := Lib.hid HQd0
          have k0 : Wd.cell? ⟨w.heap.size + 1, 4, none⟩ = some (.int .i64 b) := HQd0.pb.cell 4
          have k1 : Wd.cell? ⟨w.heap.size + 1 + 1, 1, none⟩ = some (.int .u16 m1) := HQd0.mo.cell 1
          have k2 : Wd.frozen? ⟨w.heap.size + 1, 4, none⟩ = false := HQd0.pb.frozen 4
          have e0 : W9.drew = Wd := hWd.symm
          unfold World.drew at e0
          rw [e0]
          clear hWd e0 HQd0
          repeat still_step
          refine wpStill_nil ?_
          have HN : Hid (LL f p a (b - m1) c m0 m1 m2 w (Wd.setCell ⟨w.heap.size + 1, 4, none⟩ (.int .i64 (b - m1)))) := ⟨HQd.out.cf.far (by show w.heap.size ≠ w.heap.size + 1; omega) _, HQd.out.pb.set_ 4 _, HQd.out.mo.far (by show w.heap.size + 1 + 1 ≠ w.heap.size + 1; omega) _, HQd.out.bel.setCell (by show w.heap.size ≤ w.heap.size + 1; omega) _⟩
          go_wp2_with fail
          go_roundw
          case rel => exact ⟨2, a, (b - m1), c, by omega, by rfl, HOK2.out, HN.out⟩
          case measure => simp [intOf]
        · have HG := Lib.hid hlo
          have hwm : IntKind.i64.wrap m1 = m1 := by rw [IntKind.wrap_i64]; omega
          clear hlo hok
          go_wp2_with fail
          have HQ := Lib.hid HQ.out.drew
          refine wp_region_held_drew (S := (fun w' => w'.cell? ⟨w.heap.size + 1, 4, none⟩ = some (.int .i64 b) ∧ w'.cell? ⟨w.heap.size + 1 + 1, 1, none⟩ = some (.int .u16 m1))) (by kernel_rfl) (⟨HQ.out.pb.cell 4, HQ.out.mo.cell 1⟩) (fun hHeld => ?_)
          refine held_take 0 51 (.int .i64 1) rfl rfl (by kernel_rfl) (by kernel_rfl) (by kernel_rfl) (fun _ _ _ h => h) (by rfl) (by intro w' hSw; (try dsimp only at hSw); go_simp; (try (with_reducible rfl))) (by assumption) ?_
          simp only [Act.put, List.setIfInBounds_toArray, List.set_cons_zero, List.set_cons_succ]
          refine held_take 1 52 (.pointer (some ⟨w.heap.size + 1, 3, none⟩)) rfl rfl (by kernel_rfl) (by kernel_rfl) (by kernel_rfl) (fun _ _ _ h => h) (by rfl) (by intro w' hSw; (try dsimp only at hSw); go_simp; (try (with_reducible rfl))) (by assumption) ?_
          simp only [Act.put, List.setIfInBounds_toArray, List.set_cons_zero, List.set_cons_succ]
          refine held_take 2 53 (.pointer (some ⟨w.heap.size + 1, 4, none⟩)) rfl rfl (by kernel_rfl) (by kernel_rfl) (by kernel_rfl) (fun _ _ _ h => h) (by rfl) (by intro w' hSw; (try dsimp only at hSw); go_simp; (try (with_reducible rfl))) (by assumption) ?_
          simp only [Act.put, List.setIfInBounds_toArray, List.set_cons_zero, List.set_cons_succ]
          refine held_take 3 54 (.int .i64 b) rfl rfl (by kernel_rfl) (by kernel_rfl) (by kernel_rfl) (fun _ _ _ h => h) (by rfl) (by intro w' hSw; (try dsimp only at hSw); go_simp; (try (with_reducible rfl))) (by assumption) ?_
          simp only [Act.put, List.setIfInBounds_toArray, List.set_cons_zero, List.set_cons_succ]
          refine held_take 4 55 (.int .i64 1) rfl rfl (by kernel_rfl) (by kernel_rfl) (by kernel_rfl) (fun _ _ _ h => h) (by rfl) (by intro w' hSw; (try dsimp only at hSw); go_simp; (try (with_reducible rfl))) (by assumption) ?_
          simp only [Act.put, List.setIfInBounds_toArray, List.set_cons_zero, List.set_cons_succ]
          refine held_take 5 56 (.pointer (some ⟨w.heap.size + 1 + 1, 1, none⟩)) rfl rfl (by kernel_rfl) (by kernel_rfl) (by kernel_rfl) (fun _ _ _ h => h) (by rfl) (by intro w' hSw; (try dsimp only at hSw); go_simp; (try (with_reducible rfl))) (by assumption) ?_
          simp only [Act.put, List.setIfInBounds_toArray, List.set_cons_zero, List.set_cons_succ]
          refine held_take 6 57 (.int .u16 m1) rfl rfl (by kernel_rfl) (by kernel_rfl) (by kernel_rfl) (fun _ _ _ h => h) (by rfl) (by intro w' hSw; (try dsimp only at hSw); go_simp; (try (with_reducible rfl))) (by assumption) ?_
          simp only [Act.put, List.setIfInBounds_toArray, List.set_cons_zero, List.set_cons_succ]
          refine held_take 7 58 (.int .i64 m1) rfl rfl (by kernel_rfl) (by kernel_rfl) (by kernel_rfl) (fun _ _ _ h => h) (by rfl) (by intro w' hSw; (try dsimp only at hSw); go_simp; (try (with_reducible rfl))) (by assumption) ?_
          simp only [Act.put, List.setIfInBounds_toArray, List.set_cons_zero, List.set_cons_succ]
          refine held_take 8 59 (.bool false) rfl rfl (by kernel_rfl) (by kernel_rfl) (by kernel_rfl) (fun _ _ _ h => h) (by rfl) (by intro w' hSw; (try dsimp only at hSw); go_simp; (first | done | with_reducible rfl | (have hh := HG.out; first | omega | (simp; omega)))) (by assumption) ?_
          simp only [Act.put, List.setIfInBounds_toArray, List.set_cons_zero, List.set_cons_succ]
          refine wpAnyH_done (by kernel_rfl) ?_ _
          clear hHeld
          go_wp2_with fail
          go_roundw
          case rel => exact ⟨2, a, b, c, by omega, by rfl, HOK.out, HQ.out⟩
          case measure => simp [intOf]
      · by_cases hlo : m2 ≤ c
        · have HG := Lib.hid hlo
          have hwm : IntKind.i64.wrap m2 = m2 := by rw [IntKind.wrap_i64]; omega
          have HI := Lib.hid (HPW.out.q2.2)
          have hws : IntKind.i64.wrap (c - m2) = c - m2 := by have := HI.out; have := hok.c0; have := hok.c1; rw [IntKind.wrap_i64]; omega
          have HOK2 : Hid (LessOk p a b (c - m2)) := ⟨hok.a0, hok.a1, hok.b0, hok.b1, by omega, by have := hok.c1; omega⟩
          clear hlo hok
          go_wp2_with fail
          have HQ := Lib.hid HQ.out.drew
          refine wp_region_held_drew (S := (fun w' => w'.cell? ⟨w.heap.size + 1, 5, none⟩ = some (.int .i64 c) ∧ w'.cell? ⟨w.heap.size + 1 + 1, 2, none⟩ = some (.int .u16 m2))) (by kernel_rfl) (⟨HQ.out.pb.cell 5, HQ.out.mo.cell 2⟩) (fun hHeld => ?_)
          refine held_take 0 51 (.int .i64 2) rfl rfl (by kernel_rfl) (by kernel_rfl) (by kernel_rfl) (fun _ _ _ h => h) (by rfl) (by intro w' hSw; (try dsimp only at hSw); go_simp; (try (with_reducible rfl))) (by assumption) ?_
          simp only [Act.put, List.setIfInBounds_toArray, List.set_cons_zero, List.set_cons_succ]
          refine held_take 1 52 (.pointer (some ⟨w.heap.size + 1, 3, none⟩)) rfl rfl (by kernel_rfl) (by kernel_rfl) (by kernel_rfl) (fun _ _ _ h => h) (by rfl) (by intro w' hSw; (try dsimp only at hSw); go_simp; (try (with_reducible rfl))) (by assumption) ?_
          simp only [Act.put, List.setIfInBounds_toArray, List.set_cons_zero, List.set_cons_succ]
          refine held_take 2 53 (.pointer (some ⟨w.heap.size + 1, 5, none⟩)) rfl rfl (by kernel_rfl) (by kernel_rfl) (by kernel_rfl) (fun _ _ _ h => h) (by rfl) (by intro w' hSw; (try dsimp only at hSw); go_simp; (try (with_reducible rfl))) (by assumption) ?_
          simp only [Act.put, List.setIfInBounds_toArray, List.set_cons_zero, List.set_cons_succ]
          refine held_take 3 54 (.int .i64 c) rfl rfl (by kernel_rfl) (by kernel_rfl) (by kernel_rfl) (fun _ _ _ h => h) (by rfl) (by intro w' hSw; (try dsimp only at hSw); go_simp; (try (with_reducible rfl))) (by assumption) ?_
          simp only [Act.put, List.setIfInBounds_toArray, List.set_cons_zero, List.set_cons_succ]
          refine held_take 4 55 (.int .i64 2) rfl rfl (by kernel_rfl) (by kernel_rfl) (by kernel_rfl) (fun _ _ _ h => h) (by rfl) (by intro w' hSw; (try dsimp only at hSw); go_simp; (try (with_reducible rfl))) (by assumption) ?_
          simp only [Act.put, List.setIfInBounds_toArray, List.set_cons_zero, List.set_cons_succ]
          refine held_take 5 56 (.pointer (some ⟨w.heap.size + 1 + 1, 2, none⟩)) rfl rfl (by kernel_rfl) (by kernel_rfl) (by kernel_rfl) (fun _ _ _ h => h) (by rfl) (by intro w' hSw; (try dsimp only at hSw); go_simp; (try (with_reducible rfl))) (by assumption) ?_
          simp only [Act.put, List.setIfInBounds_toArray, List.set_cons_zero, List.set_cons_succ]
          refine held_take 6 57 (.int .u16 m2) rfl rfl (by kernel_rfl) (by kernel_rfl) (by kernel_rfl) (fun _ _ _ h => h) (by rfl) (by intro w' hSw; (try dsimp only at hSw); go_simp; (try (with_reducible rfl))) (by assumption) ?_
          simp only [Act.put, List.setIfInBounds_toArray, List.set_cons_zero, List.set_cons_succ]
          refine held_take 7 58 (.int .i64 m2) rfl rfl (by kernel_rfl) (by kernel_rfl) (by kernel_rfl) (fun _ _ _ h => h) (by rfl) (by intro w' hSw; (try dsimp only at hSw); go_simp; (try (with_reducible rfl))) (by assumption) ?_
          simp only [Act.put, List.setIfInBounds_toArray, List.set_cons_zero, List.set_cons_succ]
          refine held_take 8 59 (.bool true) rfl rfl (by kernel_rfl) (by kernel_rfl) (by kernel_rfl) (fun _ _ _ h => h) (by rfl) (by intro w' hSw; (try dsimp only at hSw); go_simp; (first | done | with_reducible rfl | (have hh := HG.out; first | omega | (simp; omega)))) (by assumption) ?_
          simp only [Act.put, List.setIfInBounds_toArray, List.set_cons_zero, List.set_cons_succ]
          refine wpAnyH_done (by kernel_rfl) ?_ _
          clear hHeld
          go_wp2_with fail
          generalize wr.drew = W9 at HQ ⊢
          have HQd0 := HQ.out.drew
          refine wp_region_still_tail 12 (by kernel_rfl) (by kernel_rfl) ?_
          simp only [List.take_succ_cons, List.take_zero, List.drop_succ_cons, List.drop_zero]
          obtain ⟨Wd, hWd⟩ : ∃ Wd : World, Wd = W9.drew := ⟨_, rfl⟩
          rw [← hWd] at HQd0
          have HQd := Lib.hid HQd0
          have k0 : Wd.cell? ⟨w.heap.size + 1, 5, none⟩ = some (.int .i64 c) := HQd0.pb.cell 5
          have k1 : Wd.cell? ⟨w.heap.size + 1 + 1, 2, none⟩ = some (.int .u16 m2) := HQd0.mo.cell 2
          have k2 : Wd.frozen? ⟨w.heap.size + 1, 5, none⟩ = false := HQd0.pb.frozen 5
          have e0 : W9.drew = Wd := hWd.symm
          unfold World.drew at e0
          rw [e0]
          clear hWd e0 HQd0
          repeat still_step
          refine wpStill_nil ?_
          have HN : Hid (LL f p a b (c - m2) m0 m1 m2 w (Wd.setCell ⟨w.heap.size + 1, 5, none⟩ (.int .i64 (c - m2)))) := ⟨HQd.out.cf.far (by show w.heap.size ≠ w.heap.size + 1; omega) _, HQd.out.pb.set_ 5 _, HQd.out.mo.far (by show w.heap.size + 1 + 1 ≠ w.heap.size + 1; omega) _, HQd.out.bel.setCell (by show w.heap.size ≤ w.heap.size + 1; omega) _⟩
          go_wp2_with fail
          go_roundw
          case rel => exact ⟨3, a, b, (c - m2), by omega, by rfl, HOK2.out, HN.out⟩
          case measure => simp [intOf]
        · have HG := Lib.hid hlo
          have hwm : IntKind.i64.wrap m2 = m2 := by rw [IntKind.wrap_i64]; omega
          clear hlo hok
          go_wp2_with fail
          have HQ := Lib.hid HQ.out.drew
          refine wp_region_held_drew (S := (fun w' => w'.cell? ⟨w.heap.size + 1, 5, none⟩ = some (.int .i64 c) ∧ w'.cell? ⟨w.heap.size + 1 + 1, 2, none⟩ = some (.int .u16 m2))) (by kernel_rfl) (⟨HQ.out.pb.cell 5, HQ.out.mo.cell 2⟩) (fun hHeld => ?_)
          refine held_take 0 51 (.int .i64 2) rfl rfl (by kernel_rfl) (by kernel_rfl) (by kernel_rfl) (fun _ _ _ h => h) (by rfl) (by intro w' hSw; (try dsimp only at hSw); go_simp; (try (with_reducible rfl))) (by assumption) ?_
          simp only [Act.put, List.setIfInBounds_toArray, List.set_cons_zero, List.set_cons_succ]
          refine held_take 1 52 (.pointer (some ⟨w.heap.size + 1, 3, none⟩)) rfl rfl (by kernel_rfl) (by kernel_rfl) (by kernel_rfl) (fun _ _ _ h => h) (by rfl) (by intro w' hSw; (try dsimp only at hSw); go_simp; (try (with_reducible rfl))) (by assumption) ?_
          simp only [Act.put, List.setIfInBounds_toArray, List.set_cons_zero, List.set_cons_succ]
          refine held_take 2 53 (.pointer (some ⟨w.heap.size + 1, 5, none⟩)) rfl rfl (by kernel_rfl) (by kernel_rfl) (by kernel_rfl) (fun _ _ _ h => h) (by rfl) (by intro w' hSw; (try dsimp only at hSw); go_simp; (try (with_reducible rfl))) (by assumption) ?_
          simp only [Act.put, List.setIfInBounds_toArray, List.set_cons_zero, List.set_cons_succ]
          refine held_take 3 54 (.int .i64 c) rfl rfl (by kernel_rfl) (by kernel_rfl) (by kernel_rfl) (fun _ _ _ h => h) (by rfl) (by intro w' hSw; (try dsimp only at hSw); go_simp; (try (with_reducible rfl))) (by assumption) ?_
          simp only [Act.put, List.setIfInBounds_toArray, List.set_cons_zero, List.set_cons_succ]
          refine held_take 4 55 (.int .i64 2) rfl rfl (by kernel_rfl) (by kernel_rfl) (by kernel_rfl) (fun _ _ _ h => h) (by rfl) (by intro w' hSw; (try dsimp only at hSw); go_simp; (try (with_reducible rfl))) (by assumption) ?_
          simp only [Act.put, List.setIfInBounds_toArray, List.set_cons_zero, List.set_cons_succ]
          refine held_take 5 56 (.pointer (some ⟨w.heap.size + 1 + 1, 2, none⟩)) rfl rfl (by kernel_rfl) (by kernel_rfl) (by kernel_rfl) (fun _ _ _ h => h) (by rfl) (by intro w' hSw; (try dsimp only at hSw); go_simp; (try (with_reducible rfl))) (by assumption) ?_
          simp only [Act.put, List.setIfInBounds_toArray, List.set_cons_zero, List.set_cons_succ]
          refine held_take 6 57 (.int .u16 m2) rfl rfl (by kernel_rfl) (by kernel_rfl) (by kernel_rfl) (fun _ _ _ h => h) (by rfl) (by intro w' hSw; (try dsimp only at hSw); go_simp; (try (with_reducible rfl))) (by assumption) ?_
          simp only [Act.put, List.setIfInBounds_toArray, List.set_cons_zero, List.set_cons_succ]
          refine held_take 7 58 (.int .i64 m2) rfl rfl (by kernel_rfl) (by kernel_rfl) (by kernel_rfl) (fun _ _ _ h => h) (by rfl) (by intro w' hSw; (try dsimp only at hSw); go_simp; (try (with_reducible rfl))) (by assumption) ?_
          simp only [Act.put, List.setIfInBounds_toArray, List.set_cons_zero, List.set_cons_succ]
          refine held_take 8 59 (.bool false) rfl rfl (by kernel_rfl) (by kernel_rfl) (by kernel_rfl) (fun _ _ _ h => h) (by rfl) (by intro w' hSw; (try dsimp only at hSw); go_simp; (first | done | with_reducible rfl | (have hh := HG.out; first | omega | (simp; omega)))) (by assumption) ?_
          simp only [Act.put, List.setIfInBounds_toArray, List.set_cons_zero, List.set_cons_succ]
          refine wpAnyH_done (by kernel_rfl) ?_ _
          clear hHeld
          go_wp2_with fail
          go_roundw
          case rel => exact ⟨3, a, b, c, by omega, by rfl, HOK.out, HQ.out⟩
          case measure => simp [intOf]
      · have ccf := HQ.out.cf.cell
        have cp := HQ.out.pb.cell
        have HWL : Hid ((lessP p a b c).Wf) := by
          have h := HPW.out
          exact ⟨h.prio, ⟨by have := hok.a0; show _ ≤ a; omega, by have := hok.a1; have := h.q0.2; show a ≤ _; omega⟩, ⟨by have := hok.b0; show _ ≤ b; omega, by have := hok.b1; have := h.q1.2; show b ≤ _; omega⟩, ⟨by have := hok.c0; show _ ≤ c; omega, by have := hok.c1; have := h.q2.2; show c ≤ _; omega⟩, h.l0, h.l1, h.l2, h.size, h.id, h.image⟩
        clear hok
        go_wp2_with fail
        refine (decide_any f l false false false (lessP p a b c) Al cl _ (HR.out.below HQ.out.bel) (fun x hx => (HW.out x hx).1) hm HWL.out).mono ?_; rintro e w7 ⟨k2, s2, O2, err2, A2, c2, rfl, hv, ho, hb⟩
        obtain ⟨rfl, rfl⟩ := verD_less HOK.out HVV.out hv
        have HQ := Lib.hid ((HQ.out.below hb).alloc (.cells #[.int .i64 1, .int .i64 s2, .slice A2 O2.length c2] 36))
        clear hv ho hb ccf cp
        go_wp2_with fail
        go_ret
        exact ⟨rfl, HQ.out.bel⟩
end Go.Proofs.YtlhmhcidknadmaaDoor
