/- Several texts in one: != of an entry with itself; entries as elements. -/
import Derived.Test.YtakgblgbfbpmoaaDoorMD
namespace Go.Proofs.YtakgblgbfbpmoaaDoor
open Go.RowKit

theorem eqPod_self (p : Pd) (w : World) : (Op.equalIn 9999 44 (.agg p.cells) (.agg p.cells)).run Tryd.prog w = .ok true w := by
  have r0 : (Op.equalIn 9998 9 (.string p.id) (.string p.id)).run Tryd.prog w = .ok true w := by rw [run_equalIn_string w 9997 _ _ _ Tryd.underlying9]; simp
  have r1 : (Op.equalIn 9998 3 (.int .i64 p.prio) (.int .i64 p.prio)).run Tryd.prog w = .ok true w := by rw [run_equalIn_int w 9997 _ _ _ _ _ Tryd.underlying3]; simp
  have r2 : (Op.equalIn 9998 4 (.bool p.crit) (.bool p.crit)).run Tryd.prog w = .ok true w := by rw [run_equalIn_bool' w 9997 _ _ _ Tryd.underlying4]; simp
  have r3 := eq3_self 9996 p.q0 p.q1 p.q2 w
  have r4 := eq3_self 9996 p.l0 p.l1 p.l2 w
  have r5 : (Op.equalIn 9998 9 (.string p.image) (.string p.image)).run Tryd.prog w = .ok true w := by rw [run_equalIn_string w 9997 _ _ _ Tryd.underlying9]; simp
  have r6 : (Op.equalIn 9998 3 (.int .i64 p.size) (.int .i64 p.size)).run Tryd.prog w = .ok true w := by rw [run_equalIn_int w 9997 _ _ _ _ _ Tryd.underlying3]; simp
  have t0 : ∀ (c0 c1 c2 c3 c4 c5 c6 c7 c8 c9 c10 : Value), (part 9 #[c0, c1, c2, c3, c4, c5, c6, c7, c8, c9, c10] 0).run Tryd.prog w = .ok (c0) w := fun c0 c1 c2 c3 c4 c5 c6 c7 c8 c9 c10 => by kernel_rfl
  have t1 : ∀ (c0 c1 c2 c3 c4 c5 c6 c7 c8 c9 c10 : Value), (part 3 #[c0, c1, c2, c3, c4, c5, c6, c7, c8, c9, c10] 1).run Tryd.prog w = .ok (c1) w := fun c0 c1 c2 c3 c4 c5 c6 c7 c8 c9 c10 => by kernel_rfl
  have t2 : ∀ (c0 c1 c2 c3 c4 c5 c6 c7 c8 c9 c10 : Value), (part 4 #[c0, c1, c2, c3, c4, c5, c6, c7, c8, c9, c10] 2).run Tryd.prog w = .ok (c2) w := fun c0 c1 c2 c3 c4 c5 c6 c7 c8 c9 c10 => by kernel_rfl
  have t3 : ∀ (c0 c1 c2 c3 c4 c5 c6 c7 c8 c9 c10 : Value), (part 42 #[c0, c1, c2, c3, c4, c5, c6, c7, c8, c9, c10] 3).run Tryd.prog w = .ok (.agg #[c3, c4, c5]) w := fun c0 c1 c2 c3 c4 c5 c6 c7 c8 c9 c10 => by kernel_rfl
  have t4 : ∀ (c0 c1 c2 c3 c4 c5 c6 c7 c8 c9 c10 : Value), (part 42 #[c0, c1, c2, c3, c4, c5, c6, c7, c8, c9, c10] 6).run Tryd.prog w = .ok (.agg #[c6, c7, c8]) w := fun c0 c1 c2 c3 c4 c5 c6 c7 c8 c9 c10 => by kernel_rfl
  have t5 : ∀ (c0 c1 c2 c3 c4 c5 c6 c7 c8 c9 c10 : Value), (part 9 #[c0, c1, c2, c3, c4, c5, c6, c7, c8, c9, c10] 9).run Tryd.prog w = .ok (c9) w := fun c0 c1 c2 c3 c4 c5 c6 c7 c8 c9 c10 => by kernel_rfl
  have t6 : ∀ (c0 c1 c2 c3 c4 c5 c6 c7 c8 c9 c10 : Value), (part 3 #[c0, c1, c2, c3, c4, c5, c6, c7, c8, c9, c10] 10).run Tryd.prog w = .ok (c10) w := fun c0 c1 c2 c3 c4 c5 c6 c7 c8 c9 c10 => by kernel_rfl
  rw [run_equalIn_agg w 9998 44 _ _ fieldsP (by kernel_rfl)]
  unfold Program.fieldsOf
  rw [Tryd.underlying44]
  simp [Op.eqFields, Sem.run_bind, Sem.run_pure, t0, r0, t1, r1, t2, r2, t3, r3, t4, r4, t5, r5, t6, r6]
theorem fieldsE : Tryd.prog.underlying 46 = some (.struct (Tryd.prog.fieldsOf 46)) := by
  unfold Program.fieldsOf
  rw [Tryd.underlying46]
theorem neqEnt_self (p : Pd) (ph : Int) (w : World) : (binOp .neq 46 (.agg #[.string p.id, .int .i64 p.prio, .bool p.crit, .int .i64 p.q0, .int .i64 p.q1, .int .i64 p.q2, .int .i64 p.l0, .int .i64 p.l1, .int .i64 p.l2, .string p.image, .int .i64 p.size, .int .i64 ph]) (.agg #[.string p.id, .int .i64 p.prio, .bool p.crit, .int .i64 p.q0, .int .i64 p.q1, .int .i64 p.q2, .int .i64 p.l0, .int .i64 p.l1, .int .i64 p.l2, .string p.image, .int .i64 p.size, .int .i64 ph])).run Tryd.prog w = .ok (.bool false) w := by
  have r0 := eqPod_self p w
  have r1 : (Op.equalIn 9999 3 (.int .i64 ph) (.int .i64 ph)).run Tryd.prog w = .ok true w := by rw [run_equalIn_int w 9998 _ _ _ _ _ Tryd.underlying3]; simp
  have t0 : ∀ (c0 c1 c2 c3 c4 c5 c6 c7 c8 c9 c10 c11 : Value), (part 44 #[c0, c1, c2, c3, c4, c5, c6, c7, c8, c9, c10, c11] 0).run Tryd.prog w = .ok (.agg #[c0, c1, c2, c3, c4, c5, c6, c7, c8, c9, c10]) w := fun c0 c1 c2 c3 c4 c5 c6 c7 c8 c9 c10 c11 => by kernel_rfl
  have t1 : ∀ (c0 c1 c2 c3 c4 c5 c6 c7 c8 c9 c10 c11 : Value), (part 3 #[c0, c1, c2, c3, c4, c5, c6, c7, c8, c9, c10, c11] 11).run Tryd.prog w = .ok (c11) w := fun c0 c1 c2 c3 c4 c5 c6 c7 c8 c9 c10 c11 => by kernel_rfl
  rw [run_neq_struct, run_equalIn_agg w 9999 46 _ _ fieldsE (by kernel_rfl)]
  unfold Program.fieldsOf
  rw [Tryd.underlying46]
  simp [Op.eqFields, Sem.run_bind, Sem.run_pure, t0, r0, t1, r1]
theorem elemN : Elem Tryd.prog 22 46 12 112 := by
  obtain ⟨i, h1, h2, h3, h4⟩ := info_parts (show (Tryd.prog.info? 46).map (fun i => (i.zero, i.size, i.bytes)) = some (some (.agg #[.string ⟨#[]⟩, .int .i64 0, .bool false, .int .i64 0, .int .i64 0, .int .i64 0, .int .i64 0, .int .i64 0, .int .i64 0, .string ⟨#[]⟩, .int .i64 0, .int .i64 0]), 12, 112) by kernel_rfl)
  exact ⟨Tryd.underlying22, i, _, h1, h2, h3, h4, rfl⟩
attribute [go_sem high] neqEnt_self
end Go.Proofs.YtakgblgbfbpmoaaDoor
