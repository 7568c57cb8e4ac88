/- != of a pod with itself. -/
import Derived.Test.YtlhmhcidknadmaaDoorPodR
import Derived.KernelRfl
import Derived.Laws.StructEq
namespace Go.Proofs.YtlhmhcidknadmaaDoor
open Go.RowKit
theorem eq3_d (d : Nat) (a b c x y z : Int) (w : World) : (Op.equalIn (d + 2) 22 (.agg #[.int .i64 a, .int .i64 b, .int .i64 c]) (.agg #[.int .i64 x, .int .i64 y, .int .i64 z])).run Tryd.prog w = .ok ((a == x) && ((b == y) && (c == z))) w := by
  have hu := run_underlying (P := Tryd.prog) Tryd.underlying22 w
  have h3 := run_underlying (P := Tryd.prog) Tryd.underlying3 w
  have hs : (sizeOf 3).run Tryd.prog w = .ok 1 w := by kernel_rfl
  have key : ∀ p q : Int, (Op.equalIn (d + 1) 3 (.int .i64 p) (.int .i64 q)).run Tryd.prog w = .ok (p == q) w := fun p q => run_equalIn_int w d _ _ _ p q Tryd.underlying3
  unfold Op.equalIn
  simp only [Sem.run_bind, hu, Result.andThen_ok, hs]
  have p0 : ∀ (u v t : Value), (part 3 #[u, v, t] 0).run Tryd.prog w = .ok u w := fun u v t => by kernel_rfl
  have p1 : ∀ (u v t : Value), (part 3 #[u, v, t] 1).run Tryd.prog w = .ok v w := fun u v t => by kernel_rfl
  have p2 : ∀ (u v t : Value), (part 3 #[u, v, t] 2).run Tryd.prog w = .ok t w := fun u v t => by kernel_rfl
  rw [Std.Legacy.Range.forIn_eq_forIn_range']
  simp only [show Std.Legacy.Range.size [:3] = 3 from rfl, List.range', List.forIn_cons, Sem.run_bind, Nat.zero_add, Nat.mul_one, p0, Result.andThen_ok, key]
  cases h1 : (a == x)
  · simp [Sem.run_pure]
  · cases h2 : (b == y)
    · simp [Sem.run_pure, Sem.run_bind, p1, key, h2]
    · cases h3 : (c == z) <;> simp [Sem.run_pure, Sem.run_bind, p1, p2, key, h2, h3]
theorem eq3 (a b c x y z : Int) (w : World) : (Op.equalIn 9999 22 (.agg #[.int .i64 a, .int .i64 b, .int .i64 c]) (.agg #[.int .i64 x, .int .i64 y, .int .i64 z])).run Tryd.prog w = .ok ((a == x) && ((b == y) && (c == z))) w := eq3_d 9997 a b c x y z w
theorem eq3_top (a b c x y z : Int) (w : World) : (Op.equalIn 10000 22 (.agg #[.int .i64 a, .int .i64 b, .int .i64 c]) (.agg #[.int .i64 x, .int .i64 y, .int .i64 z])).run Tryd.prog w = .ok ((a == x) && ((b == y) && (c == z))) w := eq3_d 9998 a b c x y z w
theorem eq3_self (d : Nat) (a b c : Int) (w : World) : (Op.equalIn (d + 2) 22 (.agg #[.int .i64 a, .int .i64 b, .int .i64 c]) (.agg #[.int .i64 a, .int .i64 b, .int .i64 c])).run Tryd.prog w = .ok true w := by rw [eq3_d]; simp
theorem neq3_self (a b c : Int) (w : World) : (binOp .neq 22 (.agg #[.int .i64 a, .int .i64 b, .int .i64 c]) (.agg #[.int .i64 a, .int .i64 b, .int .i64 c])).run Tryd.prog w = .ok (.bool false) w := by
  rw [run_neq_struct, eq3_self 9998]; rfl
theorem fieldsP : Tryd.prog.underlying 29 = some (.struct (Tryd.prog.fieldsOf 29)) := by
  unfold Program.fieldsOf
  rw [Tryd.underlying29]
theorem eqPod_top (p : Pd) (w : World) : (Op.equalIn 10000 29 (.agg p.cells) (.agg p.cells)).run Tryd.prog w = .ok true w := by
  have r0 : (Op.equalIn 9999 9 (.string p.id) (.string p.id)).run Tryd.prog w = .ok true w := by rw [run_equalIn_string w 9998 _ _ _ Tryd.underlying9]; simp
  have r1 : (Op.equalIn 9999 3 (.int .i64 p.prio) (.int .i64 p.prio)).run Tryd.prog w = .ok true w := by rw [run_equalIn_int w 9998 _ _ _ _ _ Tryd.underlying3]; simp
  have r2 : (Op.equalIn 9999 4 (.bool p.crit) (.bool p.crit)).run Tryd.prog w = .ok true w := by rw [run_equalIn_bool' w 9998 _ _ _ Tryd.underlying4]; simp
  have r3 := eq3_self 9997 p.q0 p.q1 p.q2 w
  have r4 := eq3_self 9997 p.l0 p.l1 p.l2 w
  have r5 : (Op.equalIn 9999 9 (.string p.image) (.string p.image)).run Tryd.prog w = .ok true w := by rw [run_equalIn_string w 9998 _ _ _ Tryd.underlying9]; simp
  have r6 : (Op.equalIn 9999 3 (.int .i64 p.size) (.int .i64 p.size)).run Tryd.prog w = .ok true w := by rw [run_equalIn_int w 9998 _ _ _ _ _ Tryd.underlying3]; simp
  have t0 : ∀ (c0 c1 c2 c3 c4 c5 c6 c7 c8 c9 c10 : Value), (part 9 #[c0, c1, c2, c3, c4, c5, c6, c7, c8, c9, c10] 0).run Tryd.prog w = .ok (c0) w := fun c0 c1 c2 c3 c4 c5 c6 c7 c8 c9 c10 => by kernel_rfl
  have t1 : ∀ (c0 c1 c2 c3 c4 c5 c6 c7 c8 c9 c10 : Value), (part 3 #[c0, c1, c2, c3, c4, c5, c6, c7, c8, c9, c10] 1).run Tryd.prog w = .ok (c1) w := fun c0 c1 c2 c3 c4 c5 c6 c7 c8 c9 c10 => by kernel_rfl
  have t2 : ∀ (c0 c1 c2 c3 c4 c5 c6 c7 c8 c9 c10 : Value), (part 4 #[c0, c1, c2, c3, c4, c5, c6, c7, c8, c9, c10] 2).run Tryd.prog w = .ok (c2) w := fun c0 c1 c2 c3 c4 c5 c6 c7 c8 c9 c10 => by kernel_rfl
  have t3 : ∀ (c0 c1 c2 c3 c4 c5 c6 c7 c8 c9 c10 : Value), (part 22 #[c0, c1, c2, c3, c4, c5, c6, c7, c8, c9, c10] 3).run Tryd.prog w = .ok (.agg #[c3, c4, c5]) w := fun c0 c1 c2 c3 c4 c5 c6 c7 c8 c9 c10 => by kernel_rfl
  have t4 : ∀ (c0 c1 c2 c3 c4 c5 c6 c7 c8 c9 c10 : Value), (part 22 #[c0, c1, c2, c3, c4, c5, c6, c7, c8, c9, c10] 6).run Tryd.prog w = .ok (.agg #[c6, c7, c8]) w := fun c0 c1 c2 c3 c4 c5 c6 c7 c8 c9 c10 => by kernel_rfl
  have t5 : ∀ (c0 c1 c2 c3 c4 c5 c6 c7 c8 c9 c10 : Value), (part 9 #[c0, c1, c2, c3, c4, c5, c6, c7, c8, c9, c10] 9).run Tryd.prog w = .ok (c9) w := fun c0 c1 c2 c3 c4 c5 c6 c7 c8 c9 c10 => by kernel_rfl
  have t6 : ∀ (c0 c1 c2 c3 c4 c5 c6 c7 c8 c9 c10 : Value), (part 3 #[c0, c1, c2, c3, c4, c5, c6, c7, c8, c9, c10] 10).run Tryd.prog w = .ok (c10) w := fun c0 c1 c2 c3 c4 c5 c6 c7 c8 c9 c10 => by kernel_rfl
  rw [run_equalIn_agg w 9999 29 _ _ fieldsP (by kernel_rfl)]
  unfold Program.fieldsOf
  rw [Tryd.underlying29]
  simp [Op.eqFields, Sem.run_bind, Sem.run_pure, t0, r0, t1, r1, t2, r2, t3, r3, t4, r4, t5, r5, t6, r6]
theorem neqPod_self (p : Pd) (w : World) : (binOp .neq 29 (.agg #[.string p.id, .int .i64 p.prio, .bool p.crit, .int .i64 p.q0, .int .i64 p.q1, .int .i64 p.q2, .int .i64 p.l0, .int .i64 p.l1, .int .i64 p.l2, .string p.image, .int .i64 p.size]) (.agg #[.string p.id, .int .i64 p.prio, .bool p.crit, .int .i64 p.q0, .int .i64 p.q1, .int .i64 p.q2, .int .i64 p.l0, .int .i64 p.l1, .int .i64 p.l2, .string p.image, .int .i64 p.size])).run Tryd.prog w = .ok (.bool false) w := by
  rw [run_neq_struct]
  have h := eqPod_top p w
  unfold Pd.cells at h
  rw [h]
  rfl
end Go.Proofs.YtlhmhcidknadmaaDoor
