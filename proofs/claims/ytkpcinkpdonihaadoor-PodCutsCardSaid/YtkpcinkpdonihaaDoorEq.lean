/- == between arrays of three numbers. -/
import Derived.Test.YtkpcinkpdonihaaDoorPod
import Derived.KernelRfl
namespace Go.Proofs.YtkpcinkpdonihaaDoor
open Go.RowKit
theorem eq3_d (d : Nat) (a b c x y z : Int) (w : World) : (Op.equalIn (d + 2) 24 (.agg #[.int .i64 a, .int .i64 b, .int .i64 c]) (.agg #[.int .i64 x, .int .i64 y, .int .i64 z])).run Tryd.prog w = .ok ((a == x) && ((b == y) && (c == z))) w := by
  have hu := run_underlying (P := Tryd.prog) Tryd.underlying24 w
  have h3 := run_underlying (P := Tryd.prog) Tryd.underlying3 w
  have hs : (sizeOf 3).run Tryd.prog w = .ok 1 w := by kernel_rfl
  have key : ∀ p q : Int, (Op.equalIn (d + 1) 3 (.int .i64 p) (.int .i64 q)).run Tryd.prog w = .ok (p == q) w := fun p q => run_equalIn_int w d _ _ _ p q Tryd.underlying3
  unfold Op.equalIn
  simp only [Sem.run_bind, hu, Result.andThen_ok, hs]
  have p0 : ∀ (u v t : Value), (part 3 #[u, v, t] 0).run Tryd.prog w = .ok u w := fun u v t => by kernel_rfl
  have p1 : ∀ (u v t : Value), (part 3 #[u, v, t] 1).run Tryd.prog w = .ok v w := fun u v t => by kernel_rfl
  have p2 : ∀ (u v t : Value), (part 3 #[u, v, t] 2).run Tryd.prog w = .ok t w := fun u v t => by kernel_rfl
  rw [Std.Legacy.Range.forIn_eq_forIn_range']
  simp only [show Std.Legacy.Range.size [:3] = 3 from rfl, List.range', List.forIn_cons, Sem.run_bind, Nat.zero_add, Nat.mul_one, p0, Result.andThen_ok, key]
  cases h1 : (a == x)
  · simp [Sem.run_pure]
  · cases h2 : (b == y)
    · simp [Sem.run_pure, Sem.run_bind, p1, key, h2]
    · cases h3 : (c == z) <;> simp [Sem.run_pure, Sem.run_bind, p1, p2, key, h2, h3]
theorem eq3 (a b c x y z : Int) (w : World) : (Op.equalIn 9999 24 (.agg #[.int .i64 a, .int .i64 b, .int .i64 c]) (.agg #[.int .i64 x, .int .i64 y, .int .i64 z])).run Tryd.prog w = .ok ((a == x) && ((b == y) && (c == z))) w := eq3_d 9997 a b c x y z w
theorem eq3_top (a b c x y z : Int) (w : World) : (Op.equalIn 10000 24 (.agg #[.int .i64 a, .int .i64 b, .int .i64 c]) (.agg #[.int .i64 x, .int .i64 y, .int .i64 z])).run Tryd.prog w = .ok ((a == x) && ((b == y) && (c == z))) w := eq3_d 9998 a b c x y z w
attribute [go_sem] eq3 eq3_top
end Go.Proofs.YtkpcinkpdonihaaDoor
