/- == between pods. -/
import Derived.Test.YtkpcinkpdonihaaDoorEq
import Derived.Laws.StructEq
namespace Go.Proofs.YtkpcinkpdonihaaDoor
open Go.RowKit
def Pd.eqB (p q : Pd) : Bool := (p.id.toList == q.id.toList) && ((p.prio == q.prio) && ((p.crit == q.crit) && (((p.q0 == q.q0) && ((p.q1 == q.q1) && (p.q2 == q.q2))) && (((p.l0 == q.l0) && ((p.l1 == q.l1) && (p.l2 == q.l2))) && ((p.image.toList == q.image.toList) && (p.size == q.size))))))
theorem bytes_toList_inj {a b : ByteArray} (h : a.toList = b.toList) : a = b := by
  rw [ByteArray.toList_eq, ByteArray.toList_eq] at h
  obtain ⟨⟨x⟩⟩ := a
  obtain ⟨⟨y⟩⟩ := b
  simp only at h
  rw [h]
theorem Pd.eqB_iff (p q : Pd) : p.eqB q = true ↔ p = q := by
  unfold Pd.eqB
  simp only [Bool.and_eq_true, beq_iff_eq]
  constructor
  · rintro ⟨h0, h1, h2, ⟨h3, h4, h5⟩, ⟨h6, h7, h8⟩, h9, h10⟩
    have := bytes_toList_inj h0
    have := bytes_toList_inj h9
    cases p; cases q; simp_all
  · rintro rfl; simp
theorem Pd.eqB_self (p : Pd) : p.eqB p = true := (p.eqB_iff p).2 rfl
theorem Pd.eqB_no {p q : Pd} (h : p ≠ q) : p.eqB q = false := by
  cases hb : p.eqB q
  · rfl
  · exact absurd ((p.eqB_iff q).1 hb) h
theorem fieldsP : Tryd.prog.underlying 26 = some (.struct (Tryd.prog.fieldsOf 26)) := by
  unfold Program.fieldsOf
  rw [Tryd.underlying26]
theorem eqPod (p q : Pd) (w : World) : (binOp .eql 26 (.agg p.cells) (.agg q.cells)).run Tryd.prog w = .ok (.bool (p.eqB q)) w := by
  have r0 : (Op.equalIn 9999 9 (.string p.id) (.string q.id)).run Tryd.prog w = .ok (p.id.toList == q.id.toList) w := run_equalIn_string w 9998 _ _ _ Tryd.underlying9
  have r1 : (Op.equalIn 9999 3 (.int .i64 p.prio) (.int .i64 q.prio)).run Tryd.prog w = .ok (p.prio == q.prio) w := run_equalIn_int w 9998 _ _ _ _ _ Tryd.underlying3
  have r2 : (Op.equalIn 9999 4 (.bool p.crit) (.bool q.crit)).run Tryd.prog w = .ok (p.crit == q.crit) w := run_equalIn_bool' w 9998 _ _ _ Tryd.underlying4
  have r3 := eq3 p.q0 p.q1 p.q2 q.q0 q.q1 q.q2 w
  have r4 := eq3 p.l0 p.l1 p.l2 q.l0 q.l1 q.l2 w
  have r5 : (Op.equalIn 9999 9 (.string p.image) (.string q.image)).run Tryd.prog w = .ok (p.image.toList == q.image.toList) w := run_equalIn_string w 9998 _ _ _ Tryd.underlying9
  have r6 : (Op.equalIn 9999 3 (.int .i64 p.size) (.int .i64 q.size)).run Tryd.prog w = .ok (p.size == q.size) w := run_equalIn_int w 9998 _ _ _ _ _ Tryd.underlying3
  have t0 : ∀ (c0 c1 c2 c3 c4 c5 c6 c7 c8 c9 c10 : Value), (part 9 #[c0, c1, c2, c3, c4, c5, c6, c7, c8, c9, c10] 0).run Tryd.prog w = .ok c0 w := fun c0 c1 c2 c3 c4 c5 c6 c7 c8 c9 c10 => by kernel_rfl
  have t1 : ∀ (c0 c1 c2 c3 c4 c5 c6 c7 c8 c9 c10 : Value), (part 3 #[c0, c1, c2, c3, c4, c5, c6, c7, c8, c9, c10] 1).run Tryd.prog w = .ok c1 w := fun c0 c1 c2 c3 c4 c5 c6 c7 c8 c9 c10 => by kernel_rfl
  have t2 : ∀ (c0 c1 c2 c3 c4 c5 c6 c7 c8 c9 c10 : Value), (part 4 #[c0, c1, c2, c3, c4, c5, c6, c7, c8, c9, c10] 2).run Tryd.prog w = .ok c2 w := fun c0 c1 c2 c3 c4 c5 c6 c7 c8 c9 c10 => by kernel_rfl
  have t3 : ∀ (c0 c1 c2 c3 c4 c5 c6 c7 c8 c9 c10 : Value), (part 24 #[c0, c1, c2, c3, c4, c5, c6, c7, c8, c9, c10] 3).run Tryd.prog w = .ok (.agg #[c3, c4, c5]) w := fun c0 c1 c2 c3 c4 c5 c6 c7 c8 c9 c10 => by kernel_rfl
  have t4 : ∀ (c0 c1 c2 c3 c4 c5 c6 c7 c8 c9 c10 : Value), (part 24 #[c0, c1, c2, c3, c4, c5, c6, c7, c8, c9, c10] 6).run Tryd.prog w = .ok (.agg #[c6, c7, c8]) w := fun c0 c1 c2 c3 c4 c5 c6 c7 c8 c9 c10 => by kernel_rfl
  have t5 : ∀ (c0 c1 c2 c3 c4 c5 c6 c7 c8 c9 c10 : Value), (part 9 #[c0, c1, c2, c3, c4, c5, c6, c7, c8, c9, c10] 9).run Tryd.prog w = .ok c9 w := fun c0 c1 c2 c3 c4 c5 c6 c7 c8 c9 c10 => by kernel_rfl
  have t6 : ∀ (c0 c1 c2 c3 c4 c5 c6 c7 c8 c9 c10 : Value), (part 3 #[c0, c1, c2, c3, c4, c5, c6, c7, c8, c9, c10] 10).run Tryd.prog w = .ok c10 w := fun c0 c1 c2 c3 c4 c5 c6 c7 c8 c9 c10 => by kernel_rfl
  rw [run_eql_struct, run_equalIn_agg w 9999 26 _ _ fieldsP (by kernel_rfl)]
  unfold Program.fieldsOf Pd.eqB
  rw [Tryd.underlying26]
  generalize (p.id.toList == q.id.toList) = b0 at *
  generalize (p.prio == q.prio) = b1 at *
  generalize (p.crit == q.crit) = b2 at *
  generalize ((p.q0 == q.q0) && ((p.q1 == q.q1) && (p.q2 == q.q2))) = b3 at *
  generalize ((p.l0 == q.l0) && ((p.l1 == q.l1) && (p.l2 == q.l2))) = b4 at *
  generalize (p.image.toList == q.image.toList) = b5 at *
  generalize (p.size == q.size) = b6 at *
  cases b0
  · simp [Op.eqFields, Sem.run_bind, Sem.run_pure, t0, r0]
  cases b1
  · simp [Op.eqFields, Sem.run_bind, Sem.run_pure, t0, r0, t1, r1]
  cases b2
  · simp [Op.eqFields, Sem.run_bind, Sem.run_pure, t0, r0, t1, r1, t2, r2]
  cases b3
  · simp [Op.eqFields, Sem.run_bind, Sem.run_pure, t0, r0, t1, r1, t2, r2, t3, r3]
  cases b4
  · simp [Op.eqFields, Sem.run_bind, Sem.run_pure, t0, r0, t1, r1, t2, r2, t3, r3, t4, r4]
  cases b5
  · simp [Op.eqFields, Sem.run_bind, Sem.run_pure, t0, r0, t1, r1, t2, r2, t3, r3, t4, r4, t5, r5]
  cases b6
  · simp [Op.eqFields, Sem.run_bind, Sem.run_pure, t0, r0, t1, r1, t2, r2, t3, r3, t4, r4, t5, r5, t6, r6]
  · simp [Op.eqFields, Sem.run_bind, Sem.run_pure, t0, r0, t1, r1, t2, r2, t3, r3, t4, r4, t5, r5, t6, r6]
attribute [go_sem high] eqPod
end Go.Proofs.YtkpcinkpdonihaaDoor
