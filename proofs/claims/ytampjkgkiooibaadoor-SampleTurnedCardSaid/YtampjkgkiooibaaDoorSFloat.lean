/- A float's store into one cell; a float from its bits. -/
import Derived.Test.YtampjkgkiooibaaDoorSLaw
namespace Go.Proofs.YtampjkgkiooibaaDoor
open Go.RowKit

theorem run_store_float {P : Program} {w : World} {a : Addr} {m : Mode} (k : FloatKind) (b : Nat) : (store a (.float k b) m).run P w = stored P w a (.float k b) m := run_store P w a _ m rfl
attribute [go_sem] run_store_float
theorem frombits_run (n : Nat) (W : World) : Sem.run Tryd.prog (callFunc 21 #[.int .u64 (n : Int)]) W = .ok (.value (.float .f64 n)) W := by
  rw [run_callFunc_extern (e := Extern.MathFloatBits.float64frombits) Tryd.func21 (by kernel_rfl) (by kernel_rfl) (by kernel_rfl) (by kernel_rfl)]
  rfl
end Go.Proofs.YtampjkgkiooibaaDoor
