/- Several texts in one: bilgeref24.Same at equal states; state.Fits. bilgelaw24.awake: the document's own examples come true. Plain laws of With and Without: both stay right. -/
import Derived.Test.YtakgblgbfbpmoaaDoorMS
import Derived.Test.YtakgblgbfbpmoaaDoorMG
import Derived.Test.YtakgblgbfbpmoaaDoorMC
import Derived.Test.YtakgblgbfbpmoaaDoorMR
namespace Go.Proofs.YtakgblgbfbpmoaaDoor
open Go.RowKit

theorem eqB3_d (d : Nat) (a b c x y z : Bool) (w : World) : (Op.equalIn (d + 2) 23 (.agg #[.bool a, .bool b, .bool c]) (.agg #[.bool x, .bool y, .bool z])).run Tryd.prog w = .ok ((a == x) && ((b == y) && (c == z))) w := by
  have hu := run_underlying (P := Tryd.prog) Tryd.underlying23 w
  have hs : (sizeOf 4).run Tryd.prog w = .ok 1 w := by kernel_rfl
  have key : ∀ p q : Bool, (Op.equalIn (d + 1) 4 (.bool p) (.bool q)).run Tryd.prog w = .ok (p == q) w := fun p q => run_equalIn_bool' w d _ _ _ Tryd.underlying4
  unfold Op.equalIn
  simp only [Sem.run_bind, hu, Result.andThen_ok, hs]
  have p0 : ∀ (u v t : Value), (part 4 #[u, v, t] 0).run Tryd.prog w = .ok u w := fun u v t => by kernel_rfl
  have p1 : ∀ (u v t : Value), (part 4 #[u, v, t] 1).run Tryd.prog w = .ok v w := fun u v t => by kernel_rfl
  have p2 : ∀ (u v t : Value), (part 4 #[u, v, t] 2).run Tryd.prog w = .ok t w := fun u v t => by kernel_rfl
  rw [Std.Legacy.Range.forIn_eq_forIn_range']
  simp only [show Std.Legacy.Range.size [:3] = 3 from rfl, List.range', List.forIn_cons, Sem.run_bind, Nat.zero_add, Nat.mul_one, p0, Result.andThen_ok, key]
  cases h1 : (a == x)
  · simp [Sem.run_pure]
  · cases h2 : (b == y)
    · simp [Sem.run_pure, Sem.run_bind, p1, key, h2]
    · cases h3 : (c == z) <;> simp [Sem.run_pure, Sem.run_bind, p1, p2, key, h2, h3]
theorem neqB3_self (a b c : Bool) (w : World) : (binOp .neq 23 (.agg #[.bool a, .bool b, .bool c]) (.agg #[.bool a, .bool b, .bool c])).run Tryd.prog w = .ok (.bool false) w := by
  rw [run_neq_struct, eqB3_d 9998]; simp
attribute [go_sem high] neqB3_self
structure QQ (rd : Int) (A B : Option Addr) (n c d : Nat) (o0 o1 o2 : Bool) (w W : World) : Prop where
  sa : Blk W (w.heap.size) 25 #[.int .i64 rd, .slice A n c, .bool o0, .bool o1, .bool o2]
  sb : Blk W (w.heap.size + 1) 25 #[.int .i64 rd, .slice B n d, .bool o0, .bool o1, .bool o2]
  bel : Below w.heap.size w W
theorem QQ.below {rd : Int} {A B : Option Addr} {n c d : Nat} {o0 o1 o2 : Bool} {w W W' : World} (h : QQ rd A B n c d o0 o1 o2 w W) (hb : Below W.heap.size W W') : QQ rd A B n c d o0 o1 o2 w W' := ⟨h.sa.belowAll hb, h.sb.belowAll hb, h.bel.trans (hb.mono h.bel.size)⟩
theorem QQ.alloc {rd : Int} {A B : Option Addr} {n c d : Nat} {o0 o1 o2 : Bool} {w W : World} (h : QQ rd A B n c d o0 o1 o2 w W) (o : Obj) : QQ rd A B n c d o0 o1 o2 w (W.alloc o) := ⟨h.sa.alloc o, h.sb.alloc o, h.bel.alloc h.bel.size o⟩
theorem QQ.drew {rd : Int} {A B : Option Addr} {n c d : Nat} {o0 o1 o2 : Bool} {w W : World} (h : QQ rd A B n c d o0 o1 o2 w W) : QQ rd A B n c d o0 o1 o2 w W.drew := ⟨h.sa.drew, h.sb.drew, h.bel.drew⟩
theorem QQ.new (rd : Int) (A B : Option Addr) (n c d : Nat) (o0 o1 o2 : Bool) (w : World) : QQ rd A B n c d o0 o1 o2 w ((w.alloc (.cells #[.int .i64 rd, .slice A n c, .bool o0, .bool o1, .bool o2] 25)).alloc (.cells #[.int .i64 rd, .slice B n d, .bool o0, .bool o1, .bool o2] 25)) := by
  have z1 : (w.alloc (.cells #[.int .i64 rd, .slice A n c, .bool o0, .bool o1, .bool o2] 25)).heap.size = w.heap.size + 1 := by simp
  have b0 := Blk.new w 25 #[.int .i64 rd, .slice A n c, .bool o0, .bool o1, .bool o2]
  have b1 := Blk.new (w.alloc (.cells #[.int .i64 rd, .slice A n c, .bool o0, .bool o1, .bool o2] 25)) 25 #[.int .i64 rd, .slice B n d, .bool o0, .bool o1, .bool o2]
  rw [z1] at b1
  have bel : Below w.heap.size w ((w.alloc (.cells #[.int .i64 rd, .slice A n c, .bool o0, .bool o1, .bool o2] 25)).alloc (.cells #[.int .i64 rd, .slice B n d, .bool o0, .bool o1, .bool o2] 25)) := ((Below.refl w.heap.size w).alloc (Nat.le_refl _) _).alloc (by rw [z1]; omega) _
  exact ⟨(b0.alloc _), b1, bel⟩

set_option maxRecDepth 100000 in
set_option maxHeartbeats 8000000 in
theorem same24_any (rd : Int) (l : List En) (A B : Option Addr) (c d : Nat) (o0 o1 o2 : Bool) (w : World) (hr : Rds w encN A l) (hs : Rds w encN B l) (hm : l.length ≤ 100000) :
    Calls Tryd.prog 20 #[.agg #[.int .i64 rd, .slice A l.length c, .bool o0, .bool o1, .bool o2], .agg #[.int .i64 rd, .slice B l.length d, .bool o0, .bool o1, .bool o2]] w fun e w' => e = .returned (.bool true) ∧ Below w.heap.size w w' := by
  have mixed : Tryd.prog.follows Departure.mixedOrders = true := by kernel_rfl
  have HQ := Lib.hid (QQ.new rd A B l.length c d o0 o1 o2 w)
  have HR := Lib.hid hr
  have HS := Lib.hid hs
  clear hr hs
  have dn : (rd != rd) = false := by simp
  have dl : ((l.length : Int) != (l.length : Int)) = false := by simp
  have dln : (l.length != l.length) = false := by simp
  go_enter Tryd.func20, Tryd.ntmps20
  have ca := HQ.out.sa.cell
  have cb := HQ.out.sb.cell
  go_wp2_with fail
  clear ca cb
  obtain ⟨W0, hW0⟩ : ∃ W0, ((w.alloc (.cells #[.int .i64 rd, .slice A l.length c, .bool o0, .bool o1, .bool o2] 25)).alloc (.cells #[.int .i64 rd, .slice B l.length d, .bool o0, .bool o1, .bool o2] 25)) = W0 := ⟨_, rfl⟩
  rw [hW0] at HQ ⊢
  clear hW0
  go_loopw [5] (fun ii wr => ∃ i : Nat, i ≤ l.length ∧ ii = .int .i64 i ∧ QQ rd A B l.length c d o0 o1 o2 w wr) (fun ii _ => l.length - (intOf ii).toNat)
  case atStart => exact ⟨0, by omega, rfl, HQ.out⟩
  case round =>
    clear HQ
    obtain ⟨i, hi, rfl, hq⟩ := hrel
    have HQ := Lib.hid hq
    have HRa := Lib.hid (HR.out.below hq.bel)
    have HRb := Lib.hid (HS.out.below hq.bel)
    clear hq
    have ca := HQ.out.sa.cell
    by_cases hlt : i < l.length
    · have dk : decide ((i : Int) < (l.length : Int)) = true := decide_eq_true (by omega)
      have dk2 : (i : Int) < (l.length : Int) := by omega
      obtain ⟨ba, oa, hA, _⟩ := HR.out.en hlt
      obtain rfl : A = some ⟨ba, oa, none⟩ := hA
      obtain ⟨bb, ob, hA, _⟩ := HS.out.en hlt
      obtain rfl : B = some ⟨bb, ob, none⟩ := hA
      have HXI := Lib.hid (List.getElem?_eq_getElem hlt)
      generalize l[i] = x at *
      go_wp2_with fail
      clear ca
      have HQ := Lib.hid HQ.out.drew
      have HRa := Lib.hid HRa.out.drew
      have HRb := Lib.hid HRb.out.drew
      obtain ⟨x0, x1, x2, x3, x4, x5, x6, x7, x8, x9, x10, x11⟩ := HRa.out.enAt (Below.refl _ _) HXI.out
      obtain ⟨y0, y1, y2, y3, y4, y5, y6, y7, y8, y9, y10, y11⟩ := HRb.out.enAt (Below.refl _ _) HXI.out
      refine wp_region_held_drew (S := (fun w' => w'.cell? ⟨w.heap.size, 1, none⟩ = some (.slice (some ⟨ba, oa, none⟩) l.length c) ∧ w'.cell? ⟨w.heap.size + 1, 1, none⟩ = some (.slice (some ⟨bb, ob, none⟩) l.length d) ∧ w'.cell? ⟨ba, oa + i * 12, none⟩ = some (.string x.pod.id) ∧ w'.cell? ⟨ba, oa + i * 12 + 1, none⟩ = some (.int .i64 x.pod.prio) ∧ w'.cell? ⟨ba, oa + i * 12 + 2, none⟩ = some (.bool x.pod.crit) ∧ w'.cell? ⟨ba, oa + i * 12 + 3, none⟩ = some (.int .i64 x.pod.q0) ∧ w'.cell? ⟨ba, oa + i * 12 + 4, none⟩ = some (.int .i64 x.pod.q1) ∧ w'.cell? ⟨ba, oa + i * 12 + 5, none⟩ = some (.int .i64 x.pod.q2) ∧ w'.cell? ⟨ba, oa + i * 12 + 6, none⟩ = some (.int .i64 x.pod.l0) ∧ w'.cell? ⟨ba, oa + i * 12 + 7, none⟩ = some (.int .i64 x.pod.l1) ∧ w'.cell? ⟨ba, oa + i * 12 + 8, none⟩ = some (.int .i64 x.pod.l2) ∧ w'.cell? ⟨ba, oa + i * 12 + 9, none⟩ = some (.string x.pod.image) ∧ w'.cell? ⟨ba, oa + i * 12 + 10, none⟩ = some (.int .i64 x.pod.size) ∧ w'.cell? ⟨ba, oa + i * 12 + 11, none⟩ = some (.int .i64 x.phase) ∧ w'.cell? ⟨bb, ob + i * 12, none⟩ = some (.string x.pod.id) ∧ w'.cell? ⟨bb, ob + i * 12 + 1, none⟩ = some (.int .i64 x.pod.prio) ∧ w'.cell? ⟨bb, ob + i * 12 + 2, none⟩ = some (.bool x.pod.crit) ∧ w'.cell? ⟨bb, ob + i * 12 + 3, none⟩ = some (.int .i64 x.pod.q0) ∧ w'.cell? ⟨bb, ob + i * 12 + 4, none⟩ = some (.int .i64 x.pod.q1) ∧ w'.cell? ⟨bb, ob + i * 12 + 5, none⟩ = some (.int .i64 x.pod.q2) ∧ w'.cell? ⟨bb, ob + i * 12 + 6, none⟩ = some (.int .i64 x.pod.l0) ∧ w'.cell? ⟨bb, ob + i * 12 + 7, none⟩ = some (.int .i64 x.pod.l1) ∧ w'.cell? ⟨bb, ob + i * 12 + 8, none⟩ = some (.int .i64 x.pod.l2) ∧ w'.cell? ⟨bb, ob + i * 12 + 9, none⟩ = some (.string x.pod.image) ∧ w'.cell? ⟨bb, ob + i * 12 + 10, none⟩ = some (.int .i64 x.pod.size) ∧ w'.cell? ⟨bb, ob + i * 12 + 11, none⟩ = some (.int .i64 x.phase))) (by kernel_rfl) (⟨HQ.out.sa.cell 1, HQ.out.sb.cell 1, x0, x1, x2, x3, x4, x5, x6, x7, x8, x9, x10, x11, y0, y1, y2, y3, y4, y5, y6, y7, y8, y9, y10, y11⟩) (fun hHeld => ?_)
      clear x0  x1  x2  x3  x4  x5  x6  x7  x8  x9  x10  x11 y0  y1  y2  y3  y4  y5  y6  y7  y8  y9  y10  y11
      refine held_take 0 34 (.pointer (some ⟨w.heap.size, 1, none⟩)) rfl rfl (by kernel_rfl) (by kernel_rfl) (by kernel_rfl) (fun _ _ _ h => h) (by rfl) (by intro w' hSw; (try dsimp only at hSw); go_simp; (try (with_reducible rfl))) (by assumption) ?_
      simp only [Act.put, List.setIfInBounds_toArray, List.set_cons_zero, List.set_cons_succ]
      refine held_take 1 35 (.slice (some ⟨ba, oa, none⟩) l.length c) rfl rfl (by kernel_rfl) (by kernel_rfl) (by kernel_rfl) (fun _ _ _ h => h) (by rfl) (by intro w' hSw; (try dsimp only at hSw); go_simp; (try (with_reducible rfl))) (by assumption) ?_
      simp only [Act.put, List.setIfInBounds_toArray, List.set_cons_zero, List.set_cons_succ]
      refine held_take 2 36 (.int .i64 i) rfl rfl (by kernel_rfl) (by kernel_rfl) (by kernel_rfl) (fun _ _ _ h => h) (by rfl) (by intro w' hSw; (try dsimp only at hSw); go_simp; (try (with_reducible rfl))) (by assumption) ?_
      simp only [Act.put, List.setIfInBounds_toArray, List.set_cons_zero, List.set_cons_succ]
      refine held_take 3 37 (.pointer (some ⟨ba, oa + i * 12, none⟩)) rfl rfl (by kernel_rfl) (by kernel_rfl) (by kernel_rfl) (fun _ _ _ h => h) (by rfl) (by intro w' hSw; (try dsimp only at hSw); go_simp; (try (with_reducible rfl))) (by assumption) ?_
      simp only [Act.put, List.setIfInBounds_toArray, List.set_cons_zero, List.set_cons_succ]
      refine held_take 4 38 (.agg #[.string x.pod.id, .int .i64 x.pod.prio, .bool x.pod.crit, .int .i64 x.pod.q0, .int .i64 x.pod.q1, .int .i64 x.pod.q2, .int .i64 x.pod.l0, .int .i64 x.pod.l1, .int .i64 x.pod.l2, .string x.pod.image, .int .i64 x.pod.size, .int .i64 x.phase]) rfl rfl (by kernel_rfl) (by kernel_rfl) (by kernel_rfl) (fun _ _ _ h => h) (by rfl) (by intro w' hSw; (try dsimp only at hSw); go_simp; (try (with_reducible rfl))) (by assumption) ?_
      simp only [Act.put, List.setIfInBounds_toArray, List.set_cons_zero, List.set_cons_succ]
      refine held_take 5 39 (.pointer (some ⟨w.heap.size + 1, 1, none⟩)) rfl rfl (by kernel_rfl) (by kernel_rfl) (by kernel_rfl) (fun _ _ _ h => h) (by rfl) (by intro w' hSw; (try dsimp only at hSw); go_simp; (try (with_reducible rfl))) (by assumption) ?_
      simp only [Act.put, List.setIfInBounds_toArray, List.set_cons_zero, List.set_cons_succ]
      refine held_take 6 40 (.slice (some ⟨bb, ob, none⟩) l.length d) rfl rfl (by kernel_rfl) (by kernel_rfl) (by kernel_rfl) (fun _ _ _ h => h) (by rfl) (by intro w' hSw; (try dsimp only at hSw); go_simp; (try (with_reducible rfl))) (by assumption) ?_
      simp only [Act.put, List.setIfInBounds_toArray, List.set_cons_zero, List.set_cons_succ]
      refine held_take 7 41 (.int .i64 i) rfl rfl (by kernel_rfl) (by kernel_rfl) (by kernel_rfl) (fun _ _ _ h => h) (by rfl) (by intro w' hSw; (try dsimp only at hSw); go_simp; (try (with_reducible rfl))) (by assumption) ?_
      simp only [Act.put, List.setIfInBounds_toArray, List.set_cons_zero, List.set_cons_succ]
      refine held_take 8 42 (.pointer (some ⟨bb, ob + i * 12, none⟩)) rfl rfl (by kernel_rfl) (by kernel_rfl) (by kernel_rfl) (fun _ _ _ h => h) (by rfl) (by intro w' hSw; (try dsimp only at hSw); go_simp; (try (with_reducible rfl))) (by assumption) ?_
      simp only [Act.put, List.setIfInBounds_toArray, List.set_cons_zero, List.set_cons_succ]
      refine held_take 9 43 (.agg #[.string x.pod.id, .int .i64 x.pod.prio, .bool x.pod.crit, .int .i64 x.pod.q0, .int .i64 x.pod.q1, .int .i64 x.pod.q2, .int .i64 x.pod.l0, .int .i64 x.pod.l1, .int .i64 x.pod.l2, .string x.pod.image, .int .i64 x.pod.size, .int .i64 x.phase]) rfl rfl (by kernel_rfl) (by kernel_rfl) (by kernel_rfl) (fun _ _ _ h => h) (by rfl) (by intro w' hSw; (try dsimp only at hSw); go_simp; (try (with_reducible rfl))) (by assumption) ?_
      simp only [Act.put, List.setIfInBounds_toArray, List.set_cons_zero, List.set_cons_succ]
      refine held_take 10 44 (.bool false) rfl rfl (by kernel_rfl) (by kernel_rfl) (by kernel_rfl) (fun _ _ _ h => h) (by rfl) (by intro w' hSw; (try dsimp only at hSw); go_simp; (first | done | with_reducible rfl | (simp [eq3]; done))) (by assumption) ?_
      simp only [Act.put, List.setIfInBounds_toArray, List.set_cons_zero, List.set_cons_succ]
      refine wpAnyH_done (by kernel_rfl) ?_ _
      clear hHeld
      go_wp2_with fail
      go_roundw
      case rel => exact ⟨i + 1, by omega, by go_num, HQ.out⟩
      case measure => simp [intOf]; omega
    · obtain rfl : i = l.length := by omega
      have dk : decide ((l.length : Int) < (l.length : Int)) = false := by simp
      go_wp2_with fail
      go_ret
      exact ⟨rfl, HQ.out.bel⟩

/-! ### Fits -/
structure FitQ (f : Cf) (rd : Int) (A : Option Addr) (n c : Nat) (o0 o1 o2 : Bool) (w W : World) : Prop where
  sb : Blk W (w.heap.size) 25 #[.int .i64 rd, .slice A n c, .bool o0, .bool o1, .bool o2]
  cf : Blk W (w.heap.size + 1) 57 #[.int .i64 f.cap.a, .int .i64 f.cap.b, .int .i64 f.cap.c, .int .i64 f.room.a, .int .i64 f.room.b, .int .i64 f.room.c, .slice f.A f.ts.length f.n, .int .i64 f.per, .int .i64 f.ret, .int .i64 f.age, .int .i64 f.dead]
  bel : Below w.heap.size w W
theorem FitQ.below {f : Cf} {rd : Int} {A : Option Addr} {n c : Nat} {o0 o1 o2 : Bool} {w W W' : World} (h : FitQ f rd A n c o0 o1 o2 w W) (hb : Below W.heap.size W W') : FitQ f rd A n c o0 o1 o2 w W' := ⟨h.sb.belowAll hb, h.cf.belowAll hb, h.bel.trans (hb.mono h.bel.size)⟩
theorem FitQ.alloc {f : Cf} {rd : Int} {A : Option Addr} {n c : Nat} {o0 o1 o2 : Bool} {w W : World} (h : FitQ f rd A n c o0 o1 o2 w W) (o : Obj) : FitQ f rd A n c o0 o1 o2 w (W.alloc o) := ⟨h.sb.alloc o, h.cf.alloc o, h.bel.alloc h.bel.size o⟩
theorem FitQ.drew {f : Cf} {rd : Int} {A : Option Addr} {n c : Nat} {o0 o1 o2 : Bool} {w W : World} (h : FitQ f rd A n c o0 o1 o2 w W) : FitQ f rd A n c o0 o1 o2 w W.drew := ⟨h.sb.drew, h.cf.drew, h.bel.drew⟩
theorem FitQ.new (f : Cf) (rd : Int) (A : Option Addr) (n c : Nat) (o0 o1 o2 : Bool) (w : World) : FitQ f rd A n c o0 o1 o2 w ((w.alloc (.cells #[.int .i64 rd, .slice A n c, .bool o0, .bool o1, .bool o2] 25)).alloc (.cells #[.int .i64 f.cap.a, .int .i64 f.cap.b, .int .i64 f.cap.c, .int .i64 f.room.a, .int .i64 f.room.b, .int .i64 f.room.c, .slice f.A f.ts.length f.n, .int .i64 f.per, .int .i64 f.ret, .int .i64 f.age, .int .i64 f.dead] 57)) := by
  have z1 : (w.alloc (.cells #[.int .i64 rd, .slice A n c, .bool o0, .bool o1, .bool o2] 25)).heap.size = w.heap.size + 1 := by simp
  have b0 := Blk.new w 25 #[.int .i64 rd, .slice A n c, .bool o0, .bool o1, .bool o2]
  have b1 := Blk.new (w.alloc (.cells #[.int .i64 rd, .slice A n c, .bool o0, .bool o1, .bool o2] 25)) 57 #[.int .i64 f.cap.a, .int .i64 f.cap.b, .int .i64 f.cap.c, .int .i64 f.room.a, .int .i64 f.room.b, .int .i64 f.room.c, .slice f.A f.ts.length f.n, .int .i64 f.per, .int .i64 f.ret, .int .i64 f.age, .int .i64 f.dead]
  rw [z1] at b1
  have bel : Below w.heap.size w ((w.alloc (.cells #[.int .i64 rd, .slice A n c, .bool o0, .bool o1, .bool o2] 25)).alloc (.cells #[.int .i64 f.cap.a, .int .i64 f.cap.b, .int .i64 f.cap.c, .int .i64 f.room.a, .int .i64 f.room.b, .int .i64 f.room.c, .slice f.A f.ts.length f.n, .int .i64 f.per, .int .i64 f.ret, .int .i64 f.age, .int .i64 f.dead] 57)) := ((Below.refl w.heap.size w).alloc (Nat.le_refl _) _).alloc (by rw [z1]; omega) _
  exact ⟨(b0.alloc _), b1, bel⟩

set_option maxRecDepth 100000 in
set_option maxHeartbeats 8000000 in
theorem stFits_any {f : Cf} {l : List En} {v : Bool} (hv : fitsB f.room (podsD l) = v) (rd : Int) (A : Option Addr) (c : Nat) (o0 o1 o2 : Bool) (w : World) (hr : Rds w encN A l) (hw : ∀ x ∈ l, x.pod.Wf) (hm : l.length ≤ 50000) :
    Calls Tryd.prog 30 #[.agg #[.int .i64 rd, .slice A l.length c, .bool o0, .bool o1, .bool o2], .agg f.cells] w fun e w' => e = .returned (.bool v) ∧ Below w.heap.size w w' := by
  have HQ := Lib.hid (FitQ.new f rd A l.length c o0 o1 o2 w)
  have HR := Lib.hid hr
  have HV := Lib.hid hv
  have HWP := Lib.hid (show ∀ x ∈ podsD l, x.Wf from fun x hx => by
    obtain ⟨y, hy, e⟩ := List.mem_map.1 hx
    rw [← e]; exact hw y hy)
  clear hr hv hw
  go_enter Tryd.func30, Tryd.ntmps30
  have cs := HQ.out.sb.cell
  go_wp2_with fail
  clear cs
  obtain ⟨W0, hW0⟩ : ∃ W0, ((w.alloc (.cells #[.int .i64 rd, .slice A l.length c, .bool o0, .bool o1, .bool o2] 25)).alloc (.cells #[.int .i64 f.cap.a, .int .i64 f.cap.b, .int .i64 f.cap.c, .int .i64 f.room.a, .int .i64 f.room.b, .int .i64 f.room.c, .slice f.A f.ts.length f.n, .int .i64 f.per, .int .i64 f.ret, .int .i64 f.age, .int .i64 f.dead] 57)) = W0 := ⟨_, rfl⟩
  rw [hW0] at HQ ⊢
  clear hW0
  have HR0 := Lib.hid (HR.out.below HQ.out.bel)
  go_loopw [5, 11] (fun st ii wr => ∃ (i : Nat) (A1 : Option Addr) (c1 : Nat), i ≤ l.length ∧ ii = .int .i64 i ∧ st = .slice A1 (podsD (l.take i)).length c1 ∧ Own wr W0.heap.size 44 encP (.slice A1 (podsD (l.take i)).length c1) (podsD (l.take i)) ∧ Below W0.heap.size W0 wr) (fun _ ii _ => l.length - (intOf ii).toNat)
  case atStart => exact ⟨0, none, 0, by omega, rfl, rfl, Own.nil_ _ _ _ _, Below.refl _ _⟩
  case round =>
    obtain ⟨i, A1, c1, hi, rfl, rfl, ho, hbl⟩ := hrel
    have HP := Lib.hid (And.intro ho hbl)
    clear ho hbl
    have HSL : Hid ((podsD (l.take i)).length ≤ l.length) := by show _ ≤ _; rw [podsD_len, List.length_take]; omega
    by_cases hlt : i < l.length
    · have dk : decide ((i : Int) < (l.length : Int)) = true := decide_eq_true (by omega)
      have dk2 : (i : Int) < (l.length : Int) := by omega
      obtain ⟨b0, off, hA, _⟩ := HR.out.en hlt
      obtain rfl : A = some ⟨b0, off, none⟩ := hA
      have HXI := Lib.hid (List.getElem?_eq_getElem hlt)
      have HSN := Lib.hid (podsD_snoc l i hlt)
      generalize podsD (l.take i) = S at *
      generalize l[i] = x at *
      obtain ⟨x0, x1, x2, x3, x4, x5, x6, x7, x8, x9, x10, x11⟩ := HR0.out.enAt HP.out.2 HXI.out
      have HB1 := Lib.hid (HP.out.2.alloc HP.out.2.size (.cells #[.string x.pod.id, .int .i64 x.pod.prio, .bool x.pod.crit, .int .i64 x.pod.q0, .int .i64 x.pod.q1, .int .i64 x.pod.q2, .int .i64 x.pod.l0, .int .i64 x.pod.l1, .int .i64 x.pod.l2, .string x.pod.image, .int .i64 x.pod.size, .int .i64 x.phase] 46))
      go_wp2_with (at_builtin; refine wl_push elemP encP rfl (.tmp 15) (.tmp 18) rfl x.pod #[.string x.pod.id, .int .i64 x.pod.prio, .bool x.pod.crit, .int .i64 x.pod.q0, .int .i64 x.pod.q1, .int .i64 x.pod.q2, .int .i64 x.pod.l0, .int .i64 x.pod.l1, .int .i64 x.pod.l2, .string x.pod.image, .int .i64 x.pod.size] rfl W0.heap.size _ S rfl (HP.out.1.alloc _) rfl (by simp) HB1.out (by have := HSL.out; omega) (by have := HSL.out; omega) HB1.out.size ?_; intro A3 k3 w4 ho hb _; have HX3 := Lib.hid (And.intro ho hb); clear ho hb)
      go_roundw
      case rel => exact ⟨i + 1, A3, k3, by omega, by go_num, by rw [HSN.out, List.length_append]; rfl, by rw [HSN.out]; exact own_len1 HX3.out.1, HX3.out.2⟩
      case measure => simp [intOf]; omega
    · obtain rfl : i = l.length := by omega
      have dk : decide ((l.length : Int) < (l.length : Int)) = false := by simp
      rw [List.take_length] at HP HSL ⊢
      have HQ := Lib.hid (HQ.out.below HP.out.2)
      have ccf := HQ.out.cf.cell
      have HPL : Hid ((podsD l).length = l.length) := podsD_len l
      go_wp2_with fail
      refine (fitsV (room := f.room) (l := podsD l) HV.out HP.out.1.toRds HWP.out (by have := HPL.out; omega)).mono ?_; rintro e w6 ⟨rfl, hb⟩
      have HQ := Lib.hid (HQ.out.below hb)
      clear hb ccf
      go_wp2_with fail
      go_ret
      exact ⟨rfl, HQ.out.bel⟩
end Go.Proofs.YtakgblgbfbpmoaaDoor

namespace Go.Proofs.YtakgblgbfbpmoaaDoor
open Go.RowKit

abbrev pA : Pd := ⟨⟨#[112]⟩, 0, false, 0, 0, 0, 0, 0, 0, ⟨#[120]⟩, 0⟩
abbrev eA : En := ⟨pA, 2⟩
abbrev fA : Cf := ⟨⟨1, 1, 1⟩, ⟨0, 0, 0⟩, none, [], 0, 1, 0, 1, 0⟩
theorem wfA : pA.Wf := by constructor <;> first | exact ⟨by dsimp only; decide, by dsimp only; decide⟩ | (dsimp only; decide)
theorem right0 : RightS 3 [] := ⟨by decide, by decide, by simp, fun i hi => by simp at hi⟩
theorem rightA : RightS 3 [eA] := ⟨by decide, by decide, by simp, fun i hi _ => by
  simp at hi
  subst hi
  exact ⟨by show rightE eA = true; decide +kernel, fun j hj => by omega⟩⟩
theorem sort0 : SortedN [] := fun i j _ hj => by simp at hj
theorem sortA : SortedN [eA] := fun i j hij hj => by simp at hj; omega
theorem put0 : putS 3 false true false [] = [0, 0, 0, 0, 0, 0, 0, 3, 2, 0] := by decide +kernel
theorem withA : withD [] eA = [eA] := rfl
theorem findA : findS [eA] ⟨#[112]⟩ = (0, true) := by decide +kernel
theorem find0 : findS [] ⟨#[112]⟩ = (0, false) := rfl
theorem woA : withoutS [eA] ⟨#[112]⟩ = [] := by
  have : isAt [eA] ⟨#[112]⟩ = true := by decide +kernel
  have h2 : lowerI [eA] ⟨#[112]⟩ = 0 := by decide +kernel
  unfold withoutS
  rw [if_pos this, h2]; rfl
theorem fitsA : fitsB fA.room (podsD [eA]) = true := by decide +kernel
theorem got0 : GotD [0, 0, 0, 0, 0, 0, 0, 3, 2, 0] 3 false true false [] := by rw [← put0]; exact got_put right0 (fun x hx => by cases hx)
theorem gotNil : ∀ rd a b c l, ¬ GotD [] rd a b c l := fun rd a b c l h => by have := h.len; simp at this
set_option maxRecDepth 100000 in
set_option maxHeartbeats 16000000 in
theorem awake24_any (w : World) : Calls Tryd.prog 11 #[] w fun e w' => e = .returned (.bool true) ∧ Below w.heap.size w w' := by
  have HB := Lib.hid ((Below.refl w.heap.size w).alloc (Nat.le_refl _) (.cells #[.int .i64 3, .slice none 0 0, .bool false, .bool true, .bool false] 25))
  have HS := Lib.hid (Blk.new w 25 #[.int .i64 3, .slice none 0 0, .bool false, .bool true, .bool false])
  go_enter Tryd.func11, Tryd.ntmps11
  have cs := HS.out.cell
  go_wp2_with fail
  refine (put24_yes 3 [] right0 none 0 false true false _ (Rds.nil _ _ _) (fun x hx => by cases hx)).mono ?_; rintro e w1 ⟨Ab, cb, rfl, ho, hb⟩
  rw [put0] at ho ⊢
  have RB := Lib.hid ho.toRds
  have HCB := Lib.hid ho.cap.2
  have HS := Lib.hid (HS.out.belowAll hb)
  have HB := Lib.hid (below_rV HB.out hb)
  clear ho hb cs
  go_wp2_with fail
  refine (getV got0 rfl Ab cb _ RB.out HCB.out.1 HCB.out.2 (by simp)).mono ?_; rintro e w2 ⟨At, ct, rfl, ho, hb⟩
  have RT := Lib.hid (ho.toRds.alloc (.cells #[.int .i64 3, .slice At 0 ct, .bool false, .bool true, .bool false] 25))
  have HS := Lib.hid (HS.out.belowAll hb)
  have HB := Lib.hid (below_rV HB.out hb)
  have RB := Lib.hid (RB.out.below hb)
  have HS := Lib.hid (HS.out.alloc (.cells #[.int .i64 3, .slice At 0 ct, .bool false, .bool true, .bool false] 25))
  have RB := Lib.hid (RB.out.alloc (.cells #[.int .i64 3, .slice At 0 ct, .bool false, .bool true, .bool false] 25))
  have HB := Lib.hid (HB.out.alloc HB.out.size (.cells #[.int .i64 3, .slice At 0 ct, .bool false, .bool true, .bool false] 25))
  have HT := Lib.hid (Blk.new w2 25 #[.int .i64 3, .slice At 0 ct, .bool false, .bool true, .bool false])
  clear ho hb
  go_wp2_with fail
  refine (getNo gotNil rfl none 0 _ (Rds.nil _ _ _) (by simp) (by omega) (by simp)).mono ?_; rintro e w3 ⟨rfl, hb⟩
  have HS := Lib.hid (HS.out.belowAll hb)
  have HB := Lib.hid (below_rV HB.out hb)
  have RB := Lib.hid (RB.out.below hb)
  have RT := Lib.hid (RT.out.below hb)
  have HT := Lib.hid (HT.out.belowAll hb)
  have HS := Lib.hid (HS.out.alloc (.cells #[.int .i64 0, .slice none 0 0, .bool false, .bool false, .bool false] 25))
  have RB := Lib.hid (RB.out.alloc (.cells #[.int .i64 0, .slice none 0 0, .bool false, .bool false, .bool false] 25))
  have RT := Lib.hid (RT.out.alloc (.cells #[.int .i64 0, .slice none 0 0, .bool false, .bool false, .bool false] 25))
  have HT := Lib.hid (HT.out.alloc (.cells #[.int .i64 0, .slice none 0 0, .bool false, .bool false, .bool false] 25))
  have HB := Lib.hid (HB.out.alloc HB.out.size (.cells #[.int .i64 0, .slice none 0 0, .bool false, .bool false, .bool false] 25))
  have HS := Lib.hid (HS.out.alloc (.cells #[.string ⟨#[112]⟩, .int .i64 0, .bool false, .int .i64 0, .int .i64 0, .int .i64 0, .int .i64 0, .int .i64 0, .int .i64 0, .string ⟨#[120]⟩, .int .i64 0] 44))
  have RB := Lib.hid (RB.out.alloc (.cells #[.string ⟨#[112]⟩, .int .i64 0, .bool false, .int .i64 0, .int .i64 0, .int .i64 0, .int .i64 0, .int .i64 0, .int .i64 0, .string ⟨#[120]⟩, .int .i64 0] 44))
  have RT := Lib.hid (RT.out.alloc (.cells #[.string ⟨#[112]⟩, .int .i64 0, .bool false, .int .i64 0, .int .i64 0, .int .i64 0, .int .i64 0, .int .i64 0, .int .i64 0, .string ⟨#[120]⟩, .int .i64 0] 44))
  have HT := Lib.hid (HT.out.alloc (.cells #[.string ⟨#[112]⟩, .int .i64 0, .bool false, .int .i64 0, .int .i64 0, .int .i64 0, .int .i64 0, .int .i64 0, .int .i64 0, .string ⟨#[120]⟩, .int .i64 0] 44))
  have HB := Lib.hid (HB.out.alloc HB.out.size (.cells #[.string ⟨#[112]⟩, .int .i64 0, .bool false, .int .i64 0, .int .i64 0, .int .i64 0, .int .i64 0, .int .i64 0, .int .i64 0, .string ⟨#[120]⟩, .int .i64 0] 44))
  clear hb
  have cs := HS.out.cell
  go_wp2_with fail
  refine (with_any 3 [] eA none 0 false true false _ (Rds.nil _ _ _) (by simp) sort0).mono ?_; rintro e w4 ⟨Au, cu, rfl, ho, hb⟩
  rw [withA] at ho ⊢
  have RU := Lib.hid (ho.toRds.alloc (.cells #[.int .i64 3, .slice Au 1 cu, .bool false, .bool true, .bool false] 25))
  have HS := Lib.hid (HS.out.belowAll hb)
  have HB := Lib.hid (below_rV HB.out hb)
  have RB := Lib.hid (RB.out.below hb)
  have RT := Lib.hid (RT.out.below hb)
  have HT := Lib.hid (HT.out.belowAll hb)
  have HS := Lib.hid (HS.out.alloc (.cells #[.int .i64 3, .slice Au 1 cu, .bool false, .bool true, .bool false] 25))
  have RB := Lib.hid (RB.out.alloc (.cells #[.int .i64 3, .slice Au 1 cu, .bool false, .bool true, .bool false] 25))
  have RT := Lib.hid (RT.out.alloc (.cells #[.int .i64 3, .slice Au 1 cu, .bool false, .bool true, .bool false] 25))
  have HT := Lib.hid (HT.out.alloc (.cells #[.int .i64 3, .slice Au 1 cu, .bool false, .bool true, .bool false] 25))
  have HB := Lib.hid (HB.out.alloc HB.out.size (.cells #[.int .i64 3, .slice Au 1 cu, .bool false, .bool true, .bool false] 25))
  have HU := Lib.hid (Blk.new w4 25 #[.int .i64 3, .slice Au 1 cu, .bool false, .bool true, .bool false])
  clear ho hb cs
  have cu2 := HU.out.cell
  go_wp2_with fail
  refine (find_any findA 3 Au cu false true false _ RU.out (by simp) sortA).mono ?_; rintro e w5 ⟨rfl, hb⟩
  have HS := Lib.hid (HS.out.belowAll hb)
  have HB := Lib.hid (below_rV HB.out hb)
  have RB := Lib.hid (RB.out.below hb)
  have RT := Lib.hid (RT.out.below hb)
  have HT := Lib.hid (HT.out.belowAll hb)
  have HU := Lib.hid (HU.out.belowAll hb)
  have RU := Lib.hid (RU.out.below hb)
  clear hb cu2
  have cs := HS.out.cell
  go_wp2_with fail
  refine (find_any find0 3 none 0 false true false _ (Rds.nil _ _ _) (by simp) sort0).mono ?_; rintro e w6 ⟨rfl, hb⟩
  have HS := Lib.hid (HS.out.belowAll hb)
  have HB := Lib.hid (below_rV HB.out hb)
  have RB := Lib.hid (RB.out.below hb)
  have RT := Lib.hid (RT.out.below hb)
  have HT := Lib.hid (HT.out.belowAll hb)
  have HU := Lib.hid (HU.out.belowAll hb)
  have RU := Lib.hid (RU.out.below hb)
  clear hb cs
  obtain ⟨sx, hsx⟩ : ∃ s, str [0, 0, 0, 0, 0, 0, 0, 3, 2, 0] = s := ⟨_, rfl⟩
  have cv1 : (convert 28 9 (.slice Ab 10 cb)).run Tryd.prog w6 = .ok (.string sx) w6 := by rw [← hsx]; exact run_strB w6 Ab [0, 0, 0, 0, 0, 0, 0, 3, 2, 0] cb RB.out
  have cv2 : (convert 28 9 (.slice (some ⟨w6.heap.size, 0, none⟩) 10 10)).run Tryd.prog (w6.alloc (.cells #[.int .u8 0, .int .u8 0, .int .u8 0, .int .u8 0, .int .u8 0, .int .u8 0, .int .u8 0, .int .u8 3, .int .u8 2, .int .u8 0] 5)) = .ok (.string sx) (w6.alloc (.cells #[.int .u8 0, .int .u8 0, .int .u8 0, .int .u8 0, .int .u8 0, .int .u8 0, .int .u8 0, .int .u8 3, .int .u8 2, .int .u8 0] 5)) := by rw [← hsx]; exact run_strB _ _ [0, 0, 0, 0, 0, 0, 0, 3, 2, 0] 10 (Rds.made w6 encB [0, 0, 0, 0, 0, 0, 0, 3, 2, 0] 5 #[.int .u8 0, .int .u8 0, .int .u8 0, .int .u8 0, .int .u8 0, .int .u8 0, .int .u8 0, .int .u8 3, .int .u8 2, .int .u8 0] (0, 0) rfl)
  clear hsx
  have hb := (Below.refl w6.heap.size w6).alloc (Nat.le_refl _) (.cells #[.int .u8 0, .int .u8 0, .int .u8 0, .int .u8 0, .int .u8 0, .int .u8 0, .int .u8 0, .int .u8 3, .int .u8 2, .int .u8 0] 5)
  have HS := Lib.hid (HS.out.belowAll hb)
  have HB := Lib.hid (below_rV HB.out hb)
  have RB := Lib.hid (RB.out.below hb)
  have RT := Lib.hid (RT.out.below hb)
  have HT := Lib.hid (HT.out.belowAll hb)
  have HU := Lib.hid (HU.out.belowAll hb)
  have RU := Lib.hid (RU.out.below hb)
  clear hb
  have cs := HS.out.cell
  have ctt := HT.out.cell
  go_wp2_with fail
  refine (same24_any 3 [] none At 0 ct false true false _ (Rds.nil _ _ _) (Rds.nil _ _ _) (by simp)).mono ?_; rintro e w7 ⟨rfl, hb⟩
  have HS := Lib.hid (HS.out.belowAll hb)
  have HB := Lib.hid (below_rV HB.out hb)
  have RB := Lib.hid (RB.out.below hb)
  have RT := Lib.hid (RT.out.below hb)
  have HT := Lib.hid (HT.out.belowAll hb)
  have HU := Lib.hid (HU.out.belowAll hb)
  have RU := Lib.hid (RU.out.below hb)
  clear hb cs ctt cv1 cv2
  have cu2 := HU.out.cell
  go_wp2_with fail
  refine (stRightV_any (v := true) (RightS.iffYes rightA) Au cu false true false _ RU.out (fun x hx => by rw [List.mem_singleton.1 hx]; exact wfA) (by simp)).mono ?_; rintro e w8 ⟨rfl, hb⟩
  have HS := Lib.hid (HS.out.belowAll hb)
  have HB := Lib.hid (below_rV HB.out hb)
  have RB := Lib.hid (RB.out.below hb)
  have RT := Lib.hid (RT.out.below hb)
  have HT := Lib.hid (HT.out.belowAll hb)
  have HU := Lib.hid (HU.out.belowAll hb)
  have RU := Lib.hid (RU.out.below hb)
  clear hb cu2
  have cu2 := HU.out.cell
  go_wp2_with fail
  refine (without_any 3 [eA] ⟨#[112]⟩ Au cu false true false _ RU.out (by simp) sortA).mono ?_; rintro e w9 ⟨Aw, cw, rfl, ho, hb⟩
  rw [woA]
  have HS := Lib.hid (HS.out.belowAll hb)
  have HB := Lib.hid (below_rV HB.out hb)
  have RB := Lib.hid (RB.out.below hb)
  have RT := Lib.hid (RT.out.below hb)
  have HT := Lib.hid (HT.out.belowAll hb)
  have HU := Lib.hid (HU.out.belowAll hb)
  have RU := Lib.hid (RU.out.below hb)
  clear ho hb cu2
  have cu2 := HU.out.cell
  go_wp2_with fail
  refine (stFits_any (f := fA) fitsA 3 Au cu false true false _ RU.out (fun x hx => by rw [List.mem_singleton.1 hx]; exact wfA) (by simp)).mono ?_; rintro e wx ⟨rfl, hb⟩
  have HS := Lib.hid (HS.out.belowAll hb)
  have HB := Lib.hid (below_rV HB.out hb)
  have RB := Lib.hid (RB.out.below hb)
  have RT := Lib.hid (RT.out.below hb)
  have HT := Lib.hid (HT.out.belowAll hb)
  have HU := Lib.hid (HU.out.belowAll hb)
  have RU := Lib.hid (RU.out.below hb)
  clear hb cu2
  go_wp2_with fail
  go_ret
  exact ⟨rfl, HB.out⟩
end Go.Proofs.YtakgblgbfbpmoaaDoor

namespace Go.Proofs.YtakgblgbfbpmoaaDoor
open Go.RowKit

def sortedP (l : List En) : Prop := l.Pairwise fun x y => blt x.pod.id y.pod.id = true
theorem sortedP_iff {l : List En} : sortedP l ↔ SortedN l := by
  unfold sortedP SortedN
  rw [List.pairwise_iff_getElem]
  exact ⟨fun h i j hij hj => h i j (by omega) hj hij, fun h i j hi hj hij => h i j hij hj⟩
theorem mem_insE {l : List En} {u x : En} : x ∈ insE l u ↔ x = u ∨ x ∈ l := by
  induction l with
  | nil => simp [insE]
  | cons y l ih => unfold insE; split <;> simp [ih]; constructor <;> (intro h; rcases h with h | h | h <;> simp [h])
theorem insE_sorted {l : List En} {u : En} (hs : sortedP l) (hn : ∀ x ∈ l, x.pod.id ≠ u.pod.id) : sortedP (insE l u) := by
  induction l with
  | nil => simp [sortedP, insE]
  | cons y l ih =>
    obtain ⟨h1, h2⟩ := List.pairwise_cons.1 hs
    unfold insE
    split
    · rename_i hb
      refine List.pairwise_cons.2 ⟨fun z hz => ?_, hs⟩
      rcases List.mem_cons.1 hz with rfl | hz
      · exact hb
      · exact blt_trans hb (h1 z hz)
    · rename_i hb
      refine List.pairwise_cons.2 ⟨fun z hz => ?_, ih h2 fun x hx => hn x (by simp [hx])⟩
      rcases mem_insE.1 hz with rfl | hz
      · cases h3 : blt y.pod.id z.pod.id
        · exact absurd (blt_total h3 (by simpa using hb)) (hn y (by simp))
        · rfl
      · exact h1 z hz
theorem okS_of {l : List En} (hs : SortedN l) (hr : ∀ x ∈ l, rightE x = true) : OkSTo l l.length := fun i hi _ => ⟨hr _ (List.getElem_mem hi), fun j hj => hs j i (by omega) hi⟩
theorem RightS.rightE {rd : Int} {l : List En} (h : RightS rd l) : ∀ x ∈ l, rightE x = true := fun x hx => by
  obtain ⟨i, hi, rfl⟩ := List.getElem_of_mem hx
  exact (h.ok i hi hi).r
theorem withoutS_mem {l : List En} (hs : SortedN l) {s : ByteArray} {x : En} (h : x ∈ withoutS l s) : x ∈ l := by
  rw [← dropS_sorted hs] at h
  exact (List.mem_filter.1 h).1
theorem withoutS_len {l : List En} (hs : SortedN l) (s : ByteArray) : (withoutS l s).length ≤ l.length := by
  rw [← dropS_sorted hs]
  exact List.length_filter_le _ _
theorem withoutS_right {rd : Int} {l : List En} (h : RightS rd l) (s : ByteArray) : RightS rd (withoutS l s) :=
  ⟨h.lo, h.hi, Nat.le_trans (withoutS_len h.sorted s) h.len, okS_of (withoutS_sorted h.sorted s) fun x hx => h.rightE x (withoutS_mem h.sorted hx)⟩
theorem withD_mem {l : List En} (hs : SortedN l) {e x : En} (h : x ∈ withD l e) : x = e ∨ x ∈ l := by
  rw [← insE_with hs e] at h
  rcases mem_insE.1 h with h | h
  · exact .inl h
  · exact .inr (List.mem_filter.1 h).1
theorem withD_sorted {l : List En} (hs : SortedN l) (e : En) : SortedN (withD l e) := by
  rw [← insE_with hs e, ← sortedP_iff]
  refine insE_sorted (sortedP_iff.2 ?_) ?_
  · rw [dropS_sorted hs]; exact withoutS_sorted hs _
  · rw [dropS_sorted hs]; exact withoutS_no hs _
theorem withD_right {rd : Int} {l : List En} (h : RightS rd l) {e : En} (he : rightE e = true) (hl : (withD l e).length ≤ 64) : RightS rd (withD l e) :=
  ⟨h.lo, h.hi, hl, okS_of (withD_sorted h.sorted e) fun x hx => by
    rcases withD_mem h.sorted hx with rfl | hx
    · exact he
    · exact h.rightE x hx⟩
theorem withD_len {l : List En} (hs : SortedN l) (e : En) : (withD l e).length ≤ l.length + 1 := by
  rw [← insE_with hs e, insE_len]
  have := List.length_filter_le (fun x : En => !(x.pod.id.toList == e.pod.id.toList)) l
  unfold dropS
  omega
theorem with24V {rd : Int} {l : List En} {e : En} (hs : SortedN l) (A : Option Addr) (c : Nat) (o0 o1 o2 : Bool) (w : World) (hr : Rds w encN A l) (hm : l.length ≤ 100000) :
    Calls Tryd.prog 27 #[.agg #[.int .i64 rd, .slice A l.length c, .bool o0, .bool o1, .bool o2], .agg #[.string e.pod.id, .int .i64 e.pod.prio, .bool e.pod.crit, .int .i64 e.pod.q0, .int .i64 e.pod.q1, .int .i64 e.pod.q2, .int .i64 e.pod.l0, .int .i64 e.pod.l1, .int .i64 e.pod.l2, .string e.pod.image, .int .i64 e.pod.size, .int .i64 e.phase]] w (GivesSt rd o0 o1 o2 (withD l e) w) := by
  have h := with24_any rd l e A c o0 o1 o2 w hr hm
  rwa [insE_with hs] at h
theorem without24V {rd : Int} {l : List En} {s : ByteArray} (hs : SortedN l) (A : Option Addr) (c : Nat) (o0 o1 o2 : Bool) (w : World) (hr : Rds w encN A l) (hm : l.length ≤ 100000) :
    Calls Tryd.prog 28 #[.agg #[.int .i64 rd, .slice A l.length c, .bool o0, .bool o1, .bool o2], .string s] w (GivesSt rd o0 o1 o2 (withoutS l s) w) := by
  have h := without24_any rd l s A c o0 o1 o2 w hr hm
  rwa [dropS_sorted hs] at h
theorem same24N {rd : Int} {l : List En} {n m : Nat} (hn : n = l.length) (hn2 : m = l.length) (A B : Option Addr) (c d : Nat) (o0 o1 o2 : Bool) (w : World) (hr : Rds w encN A l) (hs : Rds w encN B l) (hm : l.length ≤ 100000) :
    Calls Tryd.prog 20 #[.agg #[.int .i64 rd, .slice A n c, .bool o0, .bool o1, .bool o2], .agg #[.int .i64 rd, .slice B m d, .bool o0, .bool o1, .bool o2]] w fun e w' => e = .returned (.bool true) ∧ Below w.heap.size w w' := by
  subst hn; subst hn2; exact same24_any rd l A B c d o0 o1 o2 w hr hs hm
end Go.Proofs.YtakgblgbfbpmoaaDoor
