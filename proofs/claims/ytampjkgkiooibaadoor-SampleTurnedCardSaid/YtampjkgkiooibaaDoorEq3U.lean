/- == of a thing with itself: three numbers, a use. -/
import Derived.Test.YtampjkgkiooibaaDoorPodR
import Derived.KernelRfl
import Derived.Laws.StructEq
namespace Go.Proofs.YtampjkgkiooibaaDoor
open Go.RowKit
theorem eq3_d (d : Nat) (a b c x y z : Int) (w : World) : (Op.equalIn (d + 2) 29 (.agg #[.int .i64 a, .int .i64 b, .int .i64 c]) (.agg #[.int .i64 x, .int .i64 y, .int .i64 z])).run Tryd.prog w = .ok ((a == x) && ((b == y) && (c == z))) w := by
  have hu := run_underlying (P := Tryd.prog) Tryd.underlying29 w
  have h3 := run_underlying (P := Tryd.prog) Tryd.underlying3 w
  have hs : (sizeOf 3).run Tryd.prog w = .ok 1 w := by kernel_rfl
  have key : ∀ p q : Int, (Op.equalIn (d + 1) 3 (.int .i64 p) (.int .i64 q)).run Tryd.prog w = .ok (p == q) w := fun p q => run_equalIn_int w d _ _ _ p q Tryd.underlying3
  unfold Op.equalIn
  simp only [Sem.run_bind, hu, Result.andThen_ok, hs]
  have p0 : ∀ (u v t : Value), (part 3 #[u, v, t] 0).run Tryd.prog w = .ok u w := fun u v t => by kernel_rfl
  have p1 : ∀ (u v t : Value), (part 3 #[u, v, t] 1).run Tryd.prog w = .ok v w := fun u v t => by kernel_rfl
  have p2 : ∀ (u v t : Value), (part 3 #[u, v, t] 2).run Tryd.prog w = .ok t w := fun u v t => by kernel_rfl
  rw [Std.Legacy.Range.forIn_eq_forIn_range']
  simp only [show Std.Legacy.Range.size [:3] = 3 from rfl, List.range', List.forIn_cons, Sem.run_bind, Nat.zero_add, Nat.mul_one, p0, Result.andThen_ok, key]
  cases h1 : (a == x)
  · simp [Sem.run_pure]
  · cases h2 : (b == y)
    · simp [Sem.run_pure, Sem.run_bind, p1, key, h2]
    · cases h3 : (c == z) <;> simp [Sem.run_pure, Sem.run_bind, p1, p2, key, h2, h3]
theorem eq3 (a b c x y z : Int) (w : World) : (Op.equalIn 9999 29 (.agg #[.int .i64 a, .int .i64 b, .int .i64 c]) (.agg #[.int .i64 x, .int .i64 y, .int .i64 z])).run Tryd.prog w = .ok ((a == x) && ((b == y) && (c == z))) w := eq3_d 9997 a b c x y z w
theorem eq3_top (a b c x y z : Int) (w : World) : (Op.equalIn 10000 29 (.agg #[.int .i64 a, .int .i64 b, .int .i64 c]) (.agg #[.int .i64 x, .int .i64 y, .int .i64 z])).run Tryd.prog w = .ok ((a == x) && ((b == y) && (c == z))) w := eq3_d 9998 a b c x y z w
theorem eq3_self (d : Nat) (a b c : Int) (w : World) : (Op.equalIn (d + 2) 29 (.agg #[.int .i64 a, .int .i64 b, .int .i64 c]) (.agg #[.int .i64 a, .int .i64 b, .int .i64 c])).run Tryd.prog w = .ok true w := by rw [eq3_d]; simp
theorem neq3_self (a b c : Int) (w : World) : (binOp .neq 29 (.agg #[.int .i64 a, .int .i64 b, .int .i64 c]) (.agg #[.int .i64 a, .int .i64 b, .int .i64 c])).run Tryd.prog w = .ok (.bool false) w := by
  rw [run_neq_struct, eq3_self 9998]; rfl
theorem fieldsU : Tryd.prog.underlying 51 = some (.struct (Tryd.prog.fieldsOf 51)) := by
  unfold Program.fieldsOf
  rw [Tryd.underlying51]
theorem neqUse_self (id : ByteArray) (a b c : Int) (w : World) : (binOp .neq 51 (.agg #[.string id, .int .i64 a, .int .i64 b, .int .i64 c]) (.agg #[.string id, .int .i64 a, .int .i64 b, .int .i64 c])).run Tryd.prog w = .ok (.bool false) w := by
  have r0 : (Op.equalIn 9999 9 (.string id) (.string id)).run Tryd.prog w = .ok true w := by rw [run_equalIn_string w 9998 _ _ _ Tryd.underlying9]; simp
  have r1 := eq3_self 9997 a b c w
  have t0 : ∀ (c0 c1 c2 c3 : Value), (part 9 #[c0, c1, c2, c3] 0).run Tryd.prog w = .ok (c0) w := fun c0 c1 c2 c3 => by kernel_rfl
  have t1 : ∀ (c0 c1 c2 c3 : Value), (part 29 #[c0, c1, c2, c3] 1).run Tryd.prog w = .ok (.agg #[c1, c2, c3]) w := fun c0 c1 c2 c3 => by kernel_rfl
  rw [run_neq_struct, run_equalIn_agg w 9999 51 _ _ fieldsU (by kernel_rfl)]
  unfold Program.fieldsOf
  rw [Tryd.underlying51]
  simp [Op.eqFields, Sem.run_bind, Sem.run_pure, t0, r0, t1, r1]
theorem eqArr3 (a b c x y z : Int) (w : World) : (binOp .eql 29 (.agg #[.int .i64 a, .int .i64 b, .int .i64 c]) (.agg #[.int .i64 x, .int .i64 y, .int .i64 z])).run Tryd.prog w = .ok (.bool ((a == x) && ((b == y) && (c == z)))) w := by
  rw [run_eql_struct, eq3_top]; rfl
attribute [go_sem high] neq3_self neqUse_self eqArr3
end Go.Proofs.YtampjkgkiooibaaDoor
