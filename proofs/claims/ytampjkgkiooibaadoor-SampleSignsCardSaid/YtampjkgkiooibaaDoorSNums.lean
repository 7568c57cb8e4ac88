/- math.Copysign(0, -1), math.Inf. -/
import Derived.Test.YtampjkgkiooibaaDoorSFloat
import Derived.Test.YtampjkgkiooibaaDoorEdgeNear
namespace Go.Proofs.YtampjkgkiooibaaDoor
open Go.RowKit

theorem bits_run (n : Nat) (W : World) : Sem.run Tryd.prog (callFunc 37 #[.float .f64 n]) W = .ok (.value (.int .u64 (n : Int))) W := by
  rw [run_callFunc_extern (e := Extern.MathFloatBits.float64bits) Tryd.func37 (by kernel_rfl) (by kernel_rfl) (by kernel_rfl) (by kernel_rfl)]
  rfl
theorem inf_pos (w : World) : Calls Tryd.prog 26 #[.int .i64 1] w fun e w' => e = .returned (.float .f64 9218868437227405312) ∧ w = w' := by
  have fb : Sem.run Tryd.prog (callFunc 21 #[.int .u64 9218868437227405312]) w = .ok (.value (.float .f64 9218868437227405312)) w := frombits_run 9218868437227405312 w
  go_enter Tryd.func26, Tryd.ntmps26
  go_wp2_with fail
  go_ret
  exact ⟨rfl, rfl⟩
theorem inf_neg (w : World) : Calls Tryd.prog 26 #[.int .i64 (-1)] w fun e w' => e = .returned (.float .f64 18442240474082181120) ∧ w = w' := by
  have fb : Sem.run Tryd.prog (callFunc 21 #[.int .u64 18442240474082181120]) w = .ok (.value (.float .f64 18442240474082181120)) w := frombits_run 18442240474082181120 w
  go_enter Tryd.func26, Tryd.ntmps26
  go_wp2_with fail
  go_ret
  exact ⟨rfl, rfl⟩
theorem copysign_no (w : World) : Calls Tryd.prog 25 #[.float .f64 0, .float .f64 13830554455654793216] w fun e w' => e = .returned (.float .f64 9223372036854775808) ∧ w = w' := by
  have fb : Sem.run Tryd.prog (callFunc 21 #[.int .u64 9223372036854775808]) w = .ok (.value (.float .f64 9223372036854775808)) w := frombits_run 9223372036854775808 w
  have eb : bits .or .u64 (bits .andNot .u64 0 9223372036854775808) (bits .and .u64 13830554455654793216 9223372036854775808) = 9223372036854775808 := by kernel_rfl
  have f0 := bits_run 0 w
  have f1 := bits_run 13830554455654793216 w
  go_enter Tryd.func25, Tryd.ntmps25
  go_wp2_with fail
  go_ret
  exact ⟨rfl, rfl⟩
end Go.Proofs.YtampjkgkiooibaaDoor
