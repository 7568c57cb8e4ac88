/- bilgeref24.Same at whatever two states. -/
import Derived.Test.YtakgblgbfbpmoaaDoorMT
namespace Go.Proofs.YtakgblgbfbpmoaaDoor
open Go.RowKit

def Pd.eqB (p q : Pd) : Bool := (p.id.toList == q.id.toList) && ((p.prio == q.prio) && ((p.crit == q.crit) && (((p.q0 == q.q0) && ((p.q1 == q.q1) && (p.q2 == q.q2))) && (((p.l0 == q.l0) && ((p.l1 == q.l1) && (p.l2 == q.l2))) && ((p.image.toList == q.image.toList) && (p.size == q.size))))))
theorem bytes_toList_inj {a b : ByteArray} (h : a.toList = b.toList) : a = b := by
  rw [ByteArray.toList_eq, ByteArray.toList_eq] at h
  obtain ⟨⟨x⟩⟩ := a
  obtain ⟨⟨y⟩⟩ := b
  simp only at h
  rw [h]
theorem Pd.eqB_iff (p q : Pd) : p.eqB q = true ↔ p = q := by
  unfold Pd.eqB
  simp only [Bool.and_eq_true, beq_iff_eq]
  constructor
  · rintro ⟨h0, h1, h2, ⟨h3, h4, h5⟩, ⟨h6, h7, h8⟩, h9, h10⟩
    have := bytes_toList_inj h0
    have := bytes_toList_inj h9
    cases p; cases q; simp_all
  · rintro rfl; simp
theorem Pd.eqB_self (p : Pd) : p.eqB p = true := (p.eqB_iff p).2 rfl
theorem Pd.eqB_no {p q : Pd} (h : p ≠ q) : p.eqB q = false := by
  cases hb : p.eqB q
  · rfl
  · exact absurd ((p.eqB_iff q).1 hb) h
def En.eqB (e f : En) : Bool := e.pod.eqB f.pod && (e.phase == f.phase)
theorem En.eqB_no {e f : En} (h : e ≠ f) : e.eqB f = false := by
  cases hb : e.eqB f
  · rfl
  · unfold En.eqB at hb
    rw [Bool.and_eq_true, Pd.eqB_iff, beq_iff_eq] at hb
    cases e; cases f
    exact absurd (by simp_all) h
theorem En.eqB_self (e : En) : e.eqB e = true := by unfold En.eqB; rw [Pd.eqB_self]; simp
theorem eqPodE (p q : Pd) (w : World) : (Op.equalIn 9999 44 (.agg p.cells) (.agg q.cells)).run Tryd.prog w = .ok (p.eqB q) w := by
  have r0 : (Op.equalIn 9998 9 (.string p.id) (.string q.id)).run Tryd.prog w = .ok (p.id.toList == q.id.toList) w := run_equalIn_string w 9997 _ _ _ Tryd.underlying9
  have r1 : (Op.equalIn 9998 3 (.int .i64 p.prio) (.int .i64 q.prio)).run Tryd.prog w = .ok (p.prio == q.prio) w := run_equalIn_int w 9997 _ _ _ _ _ Tryd.underlying3
  have r2 : (Op.equalIn 9998 4 (.bool p.crit) (.bool q.crit)).run Tryd.prog w = .ok (p.crit == q.crit) w := run_equalIn_bool' w 9997 _ _ _ Tryd.underlying4
  have r3 := eq3_d 9996 p.q0 p.q1 p.q2 q.q0 q.q1 q.q2 w
  have r4 := eq3_d 9996 p.l0 p.l1 p.l2 q.l0 q.l1 q.l2 w
  have r5 : (Op.equalIn 9998 9 (.string p.image) (.string q.image)).run Tryd.prog w = .ok (p.image.toList == q.image.toList) w := run_equalIn_string w 9997 _ _ _ Tryd.underlying9
  have r6 : (Op.equalIn 9998 3 (.int .i64 p.size) (.int .i64 q.size)).run Tryd.prog w = .ok (p.size == q.size) w := run_equalIn_int w 9997 _ _ _ _ _ Tryd.underlying3
  have t0 : ∀ (c0 c1 c2 c3 c4 c5 c6 c7 c8 c9 c10 : Value), (part 9 #[c0, c1, c2, c3, c4, c5, c6, c7, c8, c9, c10] 0).run Tryd.prog w = .ok c0 w := fun c0 c1 c2 c3 c4 c5 c6 c7 c8 c9 c10 => by kernel_rfl
  have t1 : ∀ (c0 c1 c2 c3 c4 c5 c6 c7 c8 c9 c10 : Value), (part 3 #[c0, c1, c2, c3, c4, c5, c6, c7, c8, c9, c10] 1).run Tryd.prog w = .ok c1 w := fun c0 c1 c2 c3 c4 c5 c6 c7 c8 c9 c10 => by kernel_rfl
  have t2 : ∀ (c0 c1 c2 c3 c4 c5 c6 c7 c8 c9 c10 : Value), (part 4 #[c0, c1, c2, c3, c4, c5, c6, c7, c8, c9, c10] 2).run Tryd.prog w = .ok c2 w := fun c0 c1 c2 c3 c4 c5 c6 c7 c8 c9 c10 => by kernel_rfl
  have t3 : ∀ (c0 c1 c2 c3 c4 c5 c6 c7 c8 c9 c10 : Value), (part 42 #[c0, c1, c2, c3, c4, c5, c6, c7, c8, c9, c10] 3).run Tryd.prog w = .ok (.agg #[c3, c4, c5]) w := fun c0 c1 c2 c3 c4 c5 c6 c7 c8 c9 c10 => by kernel_rfl
  have t4 : ∀ (c0 c1 c2 c3 c4 c5 c6 c7 c8 c9 c10 : Value), (part 42 #[c0, c1, c2, c3, c4, c5, c6, c7, c8, c9, c10] 6).run Tryd.prog w = .ok (.agg #[c6, c7, c8]) w := fun c0 c1 c2 c3 c4 c5 c6 c7 c8 c9 c10 => by kernel_rfl
  have t5 : ∀ (c0 c1 c2 c3 c4 c5 c6 c7 c8 c9 c10 : Value), (part 9 #[c0, c1, c2, c3, c4, c5, c6, c7, c8, c9, c10] 9).run Tryd.prog w = .ok c9 w := fun c0 c1 c2 c3 c4 c5 c6 c7 c8 c9 c10 => by kernel_rfl
  have t6 : ∀ (c0 c1 c2 c3 c4 c5 c6 c7 c8 c9 c10 : Value), (part 3 #[c0, c1, c2, c3, c4, c5, c6, c7, c8, c9, c10] 10).run Tryd.prog w = .ok c10 w := fun c0 c1 c2 c3 c4 c5 c6 c7 c8 c9 c10 => by kernel_rfl
  rw [run_equalIn_agg w 9998 44 _ _ fieldsP (by kernel_rfl)]
  unfold Program.fieldsOf Pd.eqB
  rw [Tryd.underlying44]
  generalize (p.id.toList == q.id.toList) = b0 at *
  generalize (p.prio == q.prio) = b1 at *
  generalize (p.crit == q.crit) = b2 at *
  generalize ((p.q0 == q.q0) && ((p.q1 == q.q1) && (p.q2 == q.q2))) = b3 at *
  generalize ((p.l0 == q.l0) && ((p.l1 == q.l1) && (p.l2 == q.l2))) = b4 at *
  generalize (p.image.toList == q.image.toList) = b5 at *
  generalize (p.size == q.size) = b6 at *
  cases b0
  · simp [Op.eqFields, Sem.run_bind, Sem.run_pure, t0, r0]
  cases b1
  · simp [Op.eqFields, Sem.run_bind, Sem.run_pure, t0, r0, t1, r1]
  cases b2
  · simp [Op.eqFields, Sem.run_bind, Sem.run_pure, t0, r0, t1, r1, t2, r2]
  cases b3
  · simp [Op.eqFields, Sem.run_bind, Sem.run_pure, t0, r0, t1, r1, t2, r2, t3, r3]
  cases b4
  · simp [Op.eqFields, Sem.run_bind, Sem.run_pure, t0, r0, t1, r1, t2, r2, t3, r3, t4, r4]
  cases b5
  · simp [Op.eqFields, Sem.run_bind, Sem.run_pure, t0, r0, t1, r1, t2, r2, t3, r3, t4, r4, t5, r5]
  cases b6
  · simp [Op.eqFields, Sem.run_bind, Sem.run_pure, t0, r0, t1, r1, t2, r2, t3, r3, t4, r4, t5, r5, t6, r6]
  · simp [Op.eqFields, Sem.run_bind, Sem.run_pure, t0, r0, t1, r1, t2, r2, t3, r3, t4, r4, t5, r5, t6, r6]
theorem neqEntV {x y : En} {v : Bool} (hv : x.eqB y = v) (w : World) : (binOp .neq 46 (.agg #[.string x.pod.id, .int .i64 x.pod.prio, .bool x.pod.crit, .int .i64 x.pod.q0, .int .i64 x.pod.q1, .int .i64 x.pod.q2, .int .i64 x.pod.l0, .int .i64 x.pod.l1, .int .i64 x.pod.l2, .string x.pod.image, .int .i64 x.pod.size, .int .i64 x.phase]) (.agg #[.string y.pod.id, .int .i64 y.pod.prio, .bool y.pod.crit, .int .i64 y.pod.q0, .int .i64 y.pod.q1, .int .i64 y.pod.q2, .int .i64 y.pod.l0, .int .i64 y.pod.l1, .int .i64 y.pod.l2, .string y.pod.image, .int .i64 y.pod.size, .int .i64 y.phase])).run Tryd.prog w = .ok (.bool (!v)) w := by
  subst hv
  have r0 := eqPodE x.pod y.pod w
  have r1 : (Op.equalIn 9999 3 (.int .i64 x.phase) (.int .i64 y.phase)).run Tryd.prog w = .ok (x.phase == y.phase) w := run_equalIn_int w 9998 _ _ _ _ _ Tryd.underlying3
  have t0 : ∀ (c0 c1 c2 c3 c4 c5 c6 c7 c8 c9 c10 c11 : Value), (part 44 #[c0, c1, c2, c3, c4, c5, c6, c7, c8, c9, c10, c11] 0).run Tryd.prog w = .ok (.agg #[c0, c1, c2, c3, c4, c5, c6, c7, c8, c9, c10]) w := fun c0 c1 c2 c3 c4 c5 c6 c7 c8 c9 c10 c11 => by kernel_rfl
  have t1 : ∀ (c0 c1 c2 c3 c4 c5 c6 c7 c8 c9 c10 c11 : Value), (part 3 #[c0, c1, c2, c3, c4, c5, c6, c7, c8, c9, c10, c11] 11).run Tryd.prog w = .ok (c11) w := fun c0 c1 c2 c3 c4 c5 c6 c7 c8 c9 c10 c11 => by kernel_rfl
  rw [run_neq_struct, run_equalIn_agg w 9999 46 _ _ fieldsE (by kernel_rfl)]
  unfold Program.fieldsOf
  rw [Tryd.underlying46]
  unfold En.eqB
  generalize hb0 : x.pod.eqB y.pod = b0 at *
  generalize hb1 : (x.phase == y.phase) = b1 at *
  cases b0
  · simp [Op.eqFields, Sem.run_bind, Sem.run_pure, t0, r0]
  cases b1
  · simp [Op.eqFields, Sem.run_bind, Sem.run_pure, t0, r0, t1, r1]
  · simp [Op.eqFields, Sem.run_bind, Sem.run_pure, t0, r0, t1, r1]
theorem neqEnt_no {x y : En} (h : x ≠ y) (w : World) : (binOp .neq 46 (.agg #[.string x.pod.id, .int .i64 x.pod.prio, .bool x.pod.crit, .int .i64 x.pod.q0, .int .i64 x.pod.q1, .int .i64 x.pod.q2, .int .i64 x.pod.l0, .int .i64 x.pod.l1, .int .i64 x.pod.l2, .string x.pod.image, .int .i64 x.pod.size, .int .i64 x.phase]) (.agg #[.string y.pod.id, .int .i64 y.pod.prio, .bool y.pod.crit, .int .i64 y.pod.q0, .int .i64 y.pod.q1, .int .i64 y.pod.q2, .int .i64 y.pod.l0, .int .i64 y.pod.l1, .int .i64 y.pod.l2, .string y.pod.image, .int .i64 y.pod.size, .int .i64 y.phase])).run Tryd.prog w = .ok (.bool true) w := neqEntV (En.eqB_no h) w
theorem neqB3_v {a b c x y z : Bool} {v : Bool} (h : ((a == x) && ((b == y) && (c == z))) = v) (w : World) : (binOp .neq 23 (.agg #[.bool a, .bool b, .bool c]) (.agg #[.bool x, .bool y, .bool z])).run Tryd.prog w = .ok (.bool (!v)) w := by
  rw [run_neq_struct, eqB3_d 9998, h]; rfl
theorem first_diff : ∀ (l m : List En), l.length = m.length → l ≠ m → ∃ (k : Nat) (x y : En), l[k]? = some x ∧ m[k]? = some y ∧ x ≠ y ∧ ∀ j, j < k → l[j]? = m[j]?
  | [], [], _, h => absurd rfl h
  | x :: l, y :: m, hl, h => by
    by_cases hx : x = y
    · subst hx
      obtain ⟨k, u, v, h1, h2, h3, h4⟩ := first_diff l m (by simpa using hl) (fun e => h (by rw [e]))
      refine ⟨k + 1, u, v, by simpa using h1, by simpa using h2, h3, fun j hj => ?_⟩
      cases j with
      | zero => rfl
      | succ j => simpa using h4 j (by omega)
    · exact ⟨0, x, y, rfl, rfl, hx, fun j hj => absurd hj (Nat.not_lt_zero j)⟩
structure Q2 (rd re : Int) (A B : Option Addr) (n m c d : Nat) (o0 o1 o2 p0 p1 p2 : Bool) (w W : World) : Prop where
  sa : Blk W (w.heap.size) 25 #[.int .i64 rd, .slice A n c, .bool o0, .bool o1, .bool o2]
  sb : Blk W (w.heap.size + 1) 25 #[.int .i64 re, .slice B m d, .bool p0, .bool p1, .bool p2]
  bel : Below w.heap.size w W
theorem Q2.below {rd re : Int} {A B : Option Addr} {n m c d : Nat} {o0 o1 o2 p0 p1 p2 : Bool} {w W W' : World} (h : Q2 rd re A B n m c d o0 o1 o2 p0 p1 p2 w W) (hb : Below W.heap.size W W') : Q2 rd re A B n m c d o0 o1 o2 p0 p1 p2 w W' := ⟨h.sa.belowAll hb, h.sb.belowAll hb, h.bel.trans (hb.mono h.bel.size)⟩
theorem Q2.alloc {rd re : Int} {A B : Option Addr} {n m c d : Nat} {o0 o1 o2 p0 p1 p2 : Bool} {w W : World} (h : Q2 rd re A B n m c d o0 o1 o2 p0 p1 p2 w W) (o : Obj) : Q2 rd re A B n m c d o0 o1 o2 p0 p1 p2 w (W.alloc o) := ⟨h.sa.alloc o, h.sb.alloc o, h.bel.alloc h.bel.size o⟩
theorem Q2.drew {rd re : Int} {A B : Option Addr} {n m c d : Nat} {o0 o1 o2 p0 p1 p2 : Bool} {w W : World} (h : Q2 rd re A B n m c d o0 o1 o2 p0 p1 p2 w W) : Q2 rd re A B n m c d o0 o1 o2 p0 p1 p2 w W.drew := ⟨h.sa.drew, h.sb.drew, h.bel.drew⟩
theorem Q2.new (rd re : Int) (A B : Option Addr) (n m c d : Nat) (o0 o1 o2 p0 p1 p2 : Bool) (w : World) : Q2 rd re A B n m c d o0 o1 o2 p0 p1 p2 w ((w.alloc (.cells #[.int .i64 rd, .slice A n c, .bool o0, .bool o1, .bool o2] 25)).alloc (.cells #[.int .i64 re, .slice B m d, .bool p0, .bool p1, .bool p2] 25)) := by
  have z1 : (w.alloc (.cells #[.int .i64 rd, .slice A n c, .bool o0, .bool o1, .bool o2] 25)).heap.size = w.heap.size + 1 := by simp
  have b0 := Blk.new w 25 #[.int .i64 rd, .slice A n c, .bool o0, .bool o1, .bool o2]
  have b1 := Blk.new (w.alloc (.cells #[.int .i64 rd, .slice A n c, .bool o0, .bool o1, .bool o2] 25)) 25 #[.int .i64 re, .slice B m d, .bool p0, .bool p1, .bool p2]
  rw [z1] at b1
  have bel : Below w.heap.size w ((w.alloc (.cells #[.int .i64 rd, .slice A n c, .bool o0, .bool o1, .bool o2] 25)).alloc (.cells #[.int .i64 re, .slice B m d, .bool p0, .bool p1, .bool p2] 25)) := ((Below.refl w.heap.size w).alloc (Nat.le_refl _) _).alloc (by rw [z1]; omega) _
  exact ⟨(b0.alloc _), b1, bel⟩

set_option maxRecDepth 100000 in
set_option maxHeartbeats 8000000 in
theorem same24_no {rd re : Int} {l m : List En} {o0 o1 o2 p0 p1 p2 : Bool} (hne : ¬ (rd = re ∧ o0 = p0 ∧ o1 = p1 ∧ o2 = p2 ∧ l = m)) (A B : Option Addr) (c d : Nat) (w : World) (hr : Rds w encN A l) (hs : Rds w encN B m) (hm : l.length ≤ 100000) :
    Calls Tryd.prog 20 #[.agg #[.int .i64 rd, .slice A l.length c, .bool o0, .bool o1, .bool o2], .agg #[.int .i64 re, .slice B m.length d, .bool p0, .bool p1, .bool p2]] w fun e w' => e = .returned (.bool false) ∧ Below w.heap.size w w' := by
  have mixed : Tryd.prog.follows Departure.mixedOrders = true := by kernel_rfl
  have HQ := Lib.hid (Q2.new rd re A B l.length m.length c d o0 o1 o2 p0 p1 p2 w)
  have HR := Lib.hid hr
  have HS := Lib.hid hs
  clear hr hs
  go_enter Tryd.func20, Tryd.ntmps20
  have ca := HQ.out.sa.cell
  have cb := HQ.out.sb.cell
  by_cases h1 : rd = re
  rotate_left
  · have d1 : (rd != re) = true := by simpa using h1
    clear hne h1
    go_wp2_with fail
    go_ret
    exact ⟨rfl, HQ.out.bel⟩
  subst h1
  have dn : (rd != rd) = false := by simp
  cases h2 : ((o0 == p0) && ((o1 == p1) && (o2 == p2)))
  · have d2 := neqB3_v h2
    simp only [Bool.not_false] at d2
    clear hne h2
    go_wp2_with fail
    go_ret
    exact ⟨rfl, HQ.out.bel⟩
  have d2 := neqB3_v h2
  simp only [Bool.not_true] at d2
  obtain ⟨rfl, rfl, rfl⟩ : o0 = p0 ∧ o1 = p1 ∧ o2 = p2 := by simpa using h2
  clear h2
  by_cases h3 : l.length = m.length
  rotate_left
  · have dl : ((l.length : Int) != (m.length : Int)) = true := by simp; omega
    have dln : (l.length != m.length) = true := by simpa using h3
    clear hne h3
    go_wp2_with fail
    go_ret
    exact ⟨rfl, HQ.out.bel⟩
  have dl : ((l.length : Int) != (m.length : Int)) = false := by simp [h3]
  have dln : (l.length != m.length) = false := by simp [h3]
  obtain ⟨k, zx, zy, hkx, hky, hkn, hkb⟩ := first_diff l m h3 (fun e => hne ⟨rfl, rfl, rfl, rfl, e⟩)
  have HD := Lib.hid (And.intro hkx (And.intro hky (And.intro hkn hkb)))
  have hkl : k < l.length := by have := List.getElem?_eq_some_iff.1 hkx; exact this.1
  have H3 := Lib.hid h3
  clear hne h3 hkx hky hkn hkb
  go_wp2_with fail
  clear ca cb d2
  obtain ⟨W0, hW0⟩ : ∃ W0, ((w.alloc (.cells #[.int .i64 rd, .slice A l.length c, .bool o0, .bool o1, .bool o2] 25)).alloc (.cells #[.int .i64 rd, .slice B m.length d, .bool o0, .bool o1, .bool o2] 25)) = W0 := ⟨_, rfl⟩
  rw [hW0] at HQ ⊢
  clear hW0
  go_loopw [5] (fun ii wr => ∃ i : Nat, i ≤ k ∧ ii = .int .i64 i ∧ Q2 rd rd A B l.length m.length c d o0 o1 o2 o0 o1 o2 w wr) (fun ii _ => l.length - (intOf ii).toNat)
  case atStart => exact ⟨0, by omega, rfl, HQ.out⟩
  case round =>
    clear HQ
    obtain ⟨i, hi, rfl, hq⟩ := hrel
    have HQ := Lib.hid hq
    have HRa := Lib.hid (HR.out.below hq.bel)
    have HRb := Lib.hid (HS.out.below hq.bel)
    clear hq
    have ca := HQ.out.sa.cell
    have hlt : i < l.length := by omega
    have hlm : i < m.length := by have := H3.out; omega
    have dk : decide ((i : Int) < (l.length : Int)) = true := decide_eq_true (by omega)
    have dk2 : (i : Int) < (l.length : Int) := by omega
    have dk3 : (i : Int) < (m.length : Int) := by omega
    obtain ⟨ba, oa, hA, _⟩ := HR.out.en hlt
    obtain rfl : A = some ⟨ba, oa, none⟩ := hA
    obtain ⟨bb, ob, hA, _⟩ := HS.out.en hlm
    obtain rfl : B = some ⟨bb, ob, none⟩ := hA
    by_cases hik : i = k
    · subst hik
      have HXI := Lib.hid HD.out.1
      have HYI := Lib.hid HD.out.2.1
      have HNE := Lib.hid HD.out.2.2.1
      clear HD
      generalize zx = x at *
      generalize zy = y at *
      have dne := neqEnt_no HNE.out
      go_wp2_with fail
      clear ca
      have HQ := Lib.hid HQ.out.drew
      have HRa := Lib.hid HRa.out.drew
      have HRb := Lib.hid HRb.out.drew
      obtain ⟨x0, x1, x2, x3, x4, x5, x6, x7, x8, x9, x10, x11⟩ := HRa.out.enAt (Below.refl _ _) HXI.out
      obtain ⟨y0, y1, y2, y3, y4, y5, y6, y7, y8, y9, y10, y11⟩ := HRb.out.enAt (Below.refl _ _) HYI.out
      refine wp_region_held_drew (S := (fun w' => w'.cell? ⟨w.heap.size, 1, none⟩ = some (.slice (some ⟨ba, oa, none⟩) l.length c) ∧ w'.cell? ⟨w.heap.size + 1, 1, none⟩ = some (.slice (some ⟨bb, ob, none⟩) m.length d) ∧ w'.cell? ⟨ba, oa + i * 12, none⟩ = some (.string x.pod.id) ∧ w'.cell? ⟨ba, oa + i * 12 + 1, none⟩ = some (.int .i64 x.pod.prio) ∧ w'.cell? ⟨ba, oa + i * 12 + 2, none⟩ = some (.bool x.pod.crit) ∧ w'.cell? ⟨ba, oa + i * 12 + 3, none⟩ = some (.int .i64 x.pod.q0) ∧ w'.cell? ⟨ba, oa + i * 12 + 4, none⟩ = some (.int .i64 x.pod.q1) ∧ w'.cell? ⟨ba, oa + i * 12 + 5, none⟩ = some (.int .i64 x.pod.q2) ∧ w'.cell? ⟨ba, oa + i * 12 + 6, none⟩ = some (.int .i64 x.pod.l0) ∧ w'.cell? ⟨ba, oa + i * 12 + 7, none⟩ = some (.int .i64 x.pod.l1) ∧ w'.cell? ⟨ba, oa + i * 12 + 8, none⟩ = some (.int .i64 x.pod.l2) ∧ w'.cell? ⟨ba, oa + i * 12 + 9, none⟩ = some (.string x.pod.image) ∧ w'.cell? ⟨ba, oa + i * 12 + 10, none⟩ = some (.int .i64 x.pod.size) ∧ w'.cell? ⟨ba, oa + i * 12 + 11, none⟩ = some (.int .i64 x.phase) ∧ w'.cell? ⟨bb, ob + i * 12, none⟩ = some (.string y.pod.id) ∧ w'.cell? ⟨bb, ob + i * 12 + 1, none⟩ = some (.int .i64 y.pod.prio) ∧ w'.cell? ⟨bb, ob + i * 12 + 2, none⟩ = some (.bool y.pod.crit) ∧ w'.cell? ⟨bb, ob + i * 12 + 3, none⟩ = some (.int .i64 y.pod.q0) ∧ w'.cell? ⟨bb, ob + i * 12 + 4, none⟩ = some (.int .i64 y.pod.q1) ∧ w'.cell? ⟨bb, ob + i * 12 + 5, none⟩ = some (.int .i64 y.pod.q2) ∧ w'.cell? ⟨bb, ob + i * 12 + 6, none⟩ = some (.int .i64 y.pod.l0) ∧ w'.cell? ⟨bb, ob + i * 12 + 7, none⟩ = some (.int .i64 y.pod.l1) ∧ w'.cell? ⟨bb, ob + i * 12 + 8, none⟩ = some (.int .i64 y.pod.l2) ∧ w'.cell? ⟨bb, ob + i * 12 + 9, none⟩ = some (.string y.pod.image) ∧ w'.cell? ⟨bb, ob + i * 12 + 10, none⟩ = some (.int .i64 y.pod.size) ∧ w'.cell? ⟨bb, ob + i * 12 + 11, none⟩ = some (.int .i64 y.phase))) (by kernel_rfl) (⟨HQ.out.sa.cell 1, HQ.out.sb.cell 1, x0, x1, x2, x3, x4, x5, x6, x7, x8, x9, x10, x11, y0, y1, y2, y3, y4, y5, y6, y7, y8, y9, y10, y11⟩) (fun hHeld => ?_)
      clear x0  x1  x2  x3  x4  x5  x6  x7  x8  x9  x10  x11 y0  y1  y2  y3  y4  y5  y6  y7  y8  y9  y10  y11
      refine held_take 0 34 (.pointer (some ⟨w.heap.size, 1, none⟩)) rfl rfl (by kernel_rfl) (by kernel_rfl) (by kernel_rfl) (fun _ _ _ h => h) (by rfl) (by intro w' hSw; (try dsimp only at hSw); go_simp; (try (with_reducible rfl))) (by assumption) ?_
      simp only [Act.put, List.setIfInBounds_toArray, List.set_cons_zero, List.set_cons_succ]
      refine held_take 1 35 (.slice (some ⟨ba, oa, none⟩) l.length c) rfl rfl (by kernel_rfl) (by kernel_rfl) (by kernel_rfl) (fun _ _ _ h => h) (by rfl) (by intro w' hSw; (try dsimp only at hSw); go_simp; (try (with_reducible rfl))) (by assumption) ?_
      simp only [Act.put, List.setIfInBounds_toArray, List.set_cons_zero, List.set_cons_succ]
      refine held_take 2 36 (.int .i64 i) rfl rfl (by kernel_rfl) (by kernel_rfl) (by kernel_rfl) (fun _ _ _ h => h) (by rfl) (by intro w' hSw; (try dsimp only at hSw); go_simp; (try (with_reducible rfl))) (by assumption) ?_
      simp only [Act.put, List.setIfInBounds_toArray, List.set_cons_zero, List.set_cons_succ]
      refine held_take 3 37 (.pointer (some ⟨ba, oa + i * 12, none⟩)) rfl rfl (by kernel_rfl) (by kernel_rfl) (by kernel_rfl) (fun _ _ _ h => h) (by rfl) (by intro w' hSw; (try dsimp only at hSw); go_simp; (try (with_reducible rfl))) (by assumption) ?_
      simp only [Act.put, List.setIfInBounds_toArray, List.set_cons_zero, List.set_cons_succ]
      refine held_take 4 38 (.agg #[.string x.pod.id, .int .i64 x.pod.prio, .bool x.pod.crit, .int .i64 x.pod.q0, .int .i64 x.pod.q1, .int .i64 x.pod.q2, .int .i64 x.pod.l0, .int .i64 x.pod.l1, .int .i64 x.pod.l2, .string x.pod.image, .int .i64 x.pod.size, .int .i64 x.phase]) rfl rfl (by kernel_rfl) (by kernel_rfl) (by kernel_rfl) (fun _ _ _ h => h) (by rfl) (by intro w' hSw; (try dsimp only at hSw); go_simp; (try (with_reducible rfl))) (by assumption) ?_
      simp only [Act.put, List.setIfInBounds_toArray, List.set_cons_zero, List.set_cons_succ]
      refine held_take 5 39 (.pointer (some ⟨w.heap.size + 1, 1, none⟩)) rfl rfl (by kernel_rfl) (by kernel_rfl) (by kernel_rfl) (fun _ _ _ h => h) (by rfl) (by intro w' hSw; (try dsimp only at hSw); go_simp; (try (with_reducible rfl))) (by assumption) ?_
      simp only [Act.put, List.setIfInBounds_toArray, List.set_cons_zero, List.set_cons_succ]
      refine held_take 6 40 (.slice (some ⟨bb, ob, none⟩) m.length d) rfl rfl (by kernel_rfl) (by kernel_rfl) (by kernel_rfl) (fun _ _ _ h => h) (by rfl) (by intro w' hSw; (try dsimp only at hSw); go_simp; (try (with_reducible rfl))) (by assumption) ?_
      simp only [Act.put, List.setIfInBounds_toArray, List.set_cons_zero, List.set_cons_succ]
      refine held_take 7 41 (.int .i64 i) rfl rfl (by kernel_rfl) (by kernel_rfl) (by kernel_rfl) (fun _ _ _ h => h) (by rfl) (by intro w' hSw; (try dsimp only at hSw); go_simp; (try (with_reducible rfl))) (by assumption) ?_
      simp only [Act.put, List.setIfInBounds_toArray, List.set_cons_zero, List.set_cons_succ]
      refine held_take 8 42 (.pointer (some ⟨bb, ob + i * 12, none⟩)) rfl rfl (by kernel_rfl) (by kernel_rfl) (by kernel_rfl) (fun _ _ _ h => h) (by rfl) (by intro w' hSw; (try dsimp only at hSw); go_simp; (try (with_reducible rfl))) (by assumption) ?_
      simp only [Act.put, List.setIfInBounds_toArray, List.set_cons_zero, List.set_cons_succ]
      refine held_take 9 43 (.agg #[.string y.pod.id, .int .i64 y.pod.prio, .bool y.pod.crit, .int .i64 y.pod.q0, .int .i64 y.pod.q1, .int .i64 y.pod.q2, .int .i64 y.pod.l0, .int .i64 y.pod.l1, .int .i64 y.pod.l2, .string y.pod.image, .int .i64 y.pod.size, .int .i64 y.phase]) rfl rfl (by kernel_rfl) (by kernel_rfl) (by kernel_rfl) (fun _ _ _ h => h) (by rfl) (by intro w' hSw; (try dsimp only at hSw); go_simp; (try (with_reducible rfl))) (by assumption) ?_
      simp only [Act.put, List.setIfInBounds_toArray, List.set_cons_zero, List.set_cons_succ]
      refine held_take 10 44 (.bool true) rfl rfl (by kernel_rfl) (by kernel_rfl) (by kernel_rfl) (fun _ _ _ h => h) (by rfl) (by intro w' hSw; (try dsimp only at hSw); go_simp; (first | done | with_reducible rfl | (first | (simp [neqEnt_no HNE.out]; done) | exact dne _))) (by assumption) ?_
      simp only [Act.put, List.setIfInBounds_toArray, List.set_cons_zero, List.set_cons_succ]
      refine wpAnyH_done (by kernel_rfl) ?_ _
      clear hHeld
      go_wp2_with fail
      go_ret
      exact ⟨rfl, HQ.out.bel⟩
    · have HYI := Lib.hid (HD.out.2.2.2 i (by omega))
      have HXI := Lib.hid (List.getElem?_eq_getElem hlt)
      have HYI := Lib.hid (HYI.out.symm.trans HXI.out)
      generalize l[i] = x at *
      go_wp2_with fail
      clear ca
      have HQ := Lib.hid HQ.out.drew
      have HRa := Lib.hid HRa.out.drew
      have HRb := Lib.hid HRb.out.drew
      obtain ⟨x0, x1, x2, x3, x4, x5, x6, x7, x8, x9, x10, x11⟩ := HRa.out.enAt (Below.refl _ _) HXI.out
      obtain ⟨y0, y1, y2, y3, y4, y5, y6, y7, y8, y9, y10, y11⟩ := HRb.out.enAt (Below.refl _ _) HYI.out
      refine wp_region_held_drew (S := (fun w' => w'.cell? ⟨w.heap.size, 1, none⟩ = some (.slice (some ⟨ba, oa, none⟩) l.length c) ∧ w'.cell? ⟨w.heap.size + 1, 1, none⟩ = some (.slice (some ⟨bb, ob, none⟩) m.length d) ∧ w'.cell? ⟨ba, oa + i * 12, none⟩ = some (.string x.pod.id) ∧ w'.cell? ⟨ba, oa + i * 12 + 1, none⟩ = some (.int .i64 x.pod.prio) ∧ w'.cell? ⟨ba, oa + i * 12 + 2, none⟩ = some (.bool x.pod.crit) ∧ w'.cell? ⟨ba, oa + i * 12 + 3, none⟩ = some (.int .i64 x.pod.q0) ∧ w'.cell? ⟨ba, oa + i * 12 + 4, none⟩ = some (.int .i64 x.pod.q1) ∧ w'.cell? ⟨ba, oa + i * 12 + 5, none⟩ = some (.int .i64 x.pod.q2) ∧ w'.cell? ⟨ba, oa + i * 12 + 6, none⟩ = some (.int .i64 x.pod.l0) ∧ w'.cell? ⟨ba, oa + i * 12 + 7, none⟩ = some (.int .i64 x.pod.l1) ∧ w'.cell? ⟨ba, oa + i * 12 + 8, none⟩ = some (.int .i64 x.pod.l2) ∧ w'.cell? ⟨ba, oa + i * 12 + 9, none⟩ = some (.string x.pod.image) ∧ w'.cell? ⟨ba, oa + i * 12 + 10, none⟩ = some (.int .i64 x.pod.size) ∧ w'.cell? ⟨ba, oa + i * 12 + 11, none⟩ = some (.int .i64 x.phase) ∧ w'.cell? ⟨bb, ob + i * 12, none⟩ = some (.string x.pod.id) ∧ w'.cell? ⟨bb, ob + i * 12 + 1, none⟩ = some (.int .i64 x.pod.prio) ∧ w'.cell? ⟨bb, ob + i * 12 + 2, none⟩ = some (.bool x.pod.crit) ∧ w'.cell? ⟨bb, ob + i * 12 + 3, none⟩ = some (.int .i64 x.pod.q0) ∧ w'.cell? ⟨bb, ob + i * 12 + 4, none⟩ = some (.int .i64 x.pod.q1) ∧ w'.cell? ⟨bb, ob + i * 12 + 5, none⟩ = some (.int .i64 x.pod.q2) ∧ w'.cell? ⟨bb, ob + i * 12 + 6, none⟩ = some (.int .i64 x.pod.l0) ∧ w'.cell? ⟨bb, ob + i * 12 + 7, none⟩ = some (.int .i64 x.pod.l1) ∧ w'.cell? ⟨bb, ob + i * 12 + 8, none⟩ = some (.int .i64 x.pod.l2) ∧ w'.cell? ⟨bb, ob + i * 12 + 9, none⟩ = some (.string x.pod.image) ∧ w'.cell? ⟨bb, ob + i * 12 + 10, none⟩ = some (.int .i64 x.pod.size) ∧ w'.cell? ⟨bb, ob + i * 12 + 11, none⟩ = some (.int .i64 x.phase))) (by kernel_rfl) (⟨HQ.out.sa.cell 1, HQ.out.sb.cell 1, x0, x1, x2, x3, x4, x5, x6, x7, x8, x9, x10, x11, y0, y1, y2, y3, y4, y5, y6, y7, y8, y9, y10, y11⟩) (fun hHeld => ?_)
      clear x0  x1  x2  x3  x4  x5  x6  x7  x8  x9  x10  x11 y0  y1  y2  y3  y4  y5  y6  y7  y8  y9  y10  y11
      refine held_take 0 34 (.pointer (some ⟨w.heap.size, 1, none⟩)) rfl rfl (by kernel_rfl) (by kernel_rfl) (by kernel_rfl) (fun _ _ _ h => h) (by rfl) (by intro w' hSw; (try dsimp only at hSw); go_simp; (try (with_reducible rfl))) (by assumption) ?_
      simp only [Act.put, List.setIfInBounds_toArray, List.set_cons_zero, List.set_cons_succ]
      refine held_take 1 35 (.slice (some ⟨ba, oa, none⟩) l.length c) rfl rfl (by kernel_rfl) (by kernel_rfl) (by kernel_rfl) (fun _ _ _ h => h) (by rfl) (by intro w' hSw; (try dsimp only at hSw); go_simp; (try (with_reducible rfl))) (by assumption) ?_
      simp only [Act.put, List.setIfInBounds_toArray, List.set_cons_zero, List.set_cons_succ]
      refine held_take 2 36 (.int .i64 i) rfl rfl (by kernel_rfl) (by kernel_rfl) (by kernel_rfl) (fun _ _ _ h => h) (by rfl) (by intro w' hSw; (try dsimp only at hSw); go_simp; (try (with_reducible rfl))) (by assumption) ?_
      simp only [Act.put, List.setIfInBounds_toArray, List.set_cons_zero, List.set_cons_succ]
      refine held_take 3 37 (.pointer (some ⟨ba, oa + i * 12, none⟩)) rfl rfl (by kernel_rfl) (by kernel_rfl) (by kernel_rfl) (fun _ _ _ h => h) (by rfl) (by intro w' hSw; (try dsimp only at hSw); go_simp; (try (with_reducible rfl))) (by assumption) ?_
      simp only [Act.put, List.setIfInBounds_toArray, List.set_cons_zero, List.set_cons_succ]
      refine held_take 4 38 (.agg #[.string x.pod.id, .int .i64 x.pod.prio, .bool x.pod.crit, .int .i64 x.pod.q0, .int .i64 x.pod.q1, .int .i64 x.pod.q2, .int .i64 x.pod.l0, .int .i64 x.pod.l1, .int .i64 x.pod.l2, .string x.pod.image, .int .i64 x.pod.size, .int .i64 x.phase]) rfl rfl (by kernel_rfl) (by kernel_rfl) (by kernel_rfl) (fun _ _ _ h => h) (by rfl) (by intro w' hSw; (try dsimp only at hSw); go_simp; (try (with_reducible rfl))) (by assumption) ?_
      simp only [Act.put, List.setIfInBounds_toArray, List.set_cons_zero, List.set_cons_succ]
      refine held_take 5 39 (.pointer (some ⟨w.heap.size + 1, 1, none⟩)) rfl rfl (by kernel_rfl) (by kernel_rfl) (by kernel_rfl) (fun _ _ _ h => h) (by rfl) (by intro w' hSw; (try dsimp only at hSw); go_simp; (try (with_reducible rfl))) (by assumption) ?_
      simp only [Act.put, List.setIfInBounds_toArray, List.set_cons_zero, List.set_cons_succ]
      refine held_take 6 40 (.slice (some ⟨bb, ob, none⟩) m.length d) rfl rfl (by kernel_rfl) (by kernel_rfl) (by kernel_rfl) (fun _ _ _ h => h) (by rfl) (by intro w' hSw; (try dsimp only at hSw); go_simp; (try (with_reducible rfl))) (by assumption) ?_
      simp only [Act.put, List.setIfInBounds_toArray, List.set_cons_zero, List.set_cons_succ]
      refine held_take 7 41 (.int .i64 i) rfl rfl (by kernel_rfl) (by kernel_rfl) (by kernel_rfl) (fun _ _ _ h => h) (by rfl) (by intro w' hSw; (try dsimp only at hSw); go_simp; (try (with_reducible rfl))) (by assumption) ?_
      simp only [Act.put, List.setIfInBounds_toArray, List.set_cons_zero, List.set_cons_succ]
      refine held_take 8 42 (.pointer (some ⟨bb, ob + i * 12, none⟩)) rfl rfl (by kernel_rfl) (by kernel_rfl) (by kernel_rfl) (fun _ _ _ h => h) (by rfl) (by intro w' hSw; (try dsimp only at hSw); go_simp; (try (with_reducible rfl))) (by assumption) ?_
      simp only [Act.put, List.setIfInBounds_toArray, List.set_cons_zero, List.set_cons_succ]
      refine held_take 9 43 (.agg #[.string x.pod.id, .int .i64 x.pod.prio, .bool x.pod.crit, .int .i64 x.pod.q0, .int .i64 x.pod.q1, .int .i64 x.pod.q2, .int .i64 x.pod.l0, .int .i64 x.pod.l1, .int .i64 x.pod.l2, .string x.pod.image, .int .i64 x.pod.size, .int .i64 x.phase]) rfl rfl (by kernel_rfl) (by kernel_rfl) (by kernel_rfl) (fun _ _ _ h => h) (by rfl) (by intro w' hSw; (try dsimp only at hSw); go_simp; (try (with_reducible rfl))) (by assumption) ?_
      simp only [Act.put, List.setIfInBounds_toArray, List.set_cons_zero, List.set_cons_succ]
      refine held_take 10 44 (.bool false) rfl rfl (by kernel_rfl) (by kernel_rfl) (by kernel_rfl) (fun _ _ _ h => h) (by rfl) (by intro w' hSw; (try dsimp only at hSw); go_simp; (first | done | with_reducible rfl | (simp; done))) (by assumption) ?_
      simp only [Act.put, List.setIfInBounds_toArray, List.set_cons_zero, List.set_cons_succ]
      refine wpAnyH_done (by kernel_rfl) ?_ _
      clear hHeld
      go_wp2_with fail
      go_roundw
      case rel => exact ⟨i + 1, by omega, by go_num, HQ.out⟩
      case measure => simp [intOf]; omega
theorem same24V {rd re : Int} {l m : List En} {o0 o1 o2 p0 p1 p2 : Bool} {v : Bool} (hv : v = true ↔ (rd = re ∧ o0 = p0 ∧ o1 = p1 ∧ o2 = p2 ∧ l = m)) {n n2 : Nat} (hn : n = l.length) (hn2 : n2 = m.length) (A B : Option Addr) (c d : Nat) (w : World) (hr : Rds w encN A l) (hs : Rds w encN B m) (hm : l.length ≤ 100000) :
    Calls Tryd.prog 20 #[.agg #[.int .i64 rd, .slice A n c, .bool o0, .bool o1, .bool o2], .agg #[.int .i64 re, .slice B n2 d, .bool p0, .bool p1, .bool p2]] w fun e w' => e = .returned (.bool v) ∧ Below w.heap.size w w' := by
  subst hn; subst hn2
  cases v
  · exact same24_no (fun h => by have := hv.2 h; cases this) A B c d w hr hs hm
  · obtain ⟨rfl, rfl, rfl, rfl, rfl⟩ := hv.1 rfl
    exact same24_any rd l A B c d o0 o1 o2 w hr hs hm
end Go.Proofs.YtakgblgbfbpmoaaDoor
