/- 'n<<8 | c': eight bits more. -/
import Derived.Test.YtkpcinkpdonihaaDoorBase
import Derived.Laws.BitsAllLaws
namespace Go.Proofs.YtkpcinkpdonihaaDoor
open Go.RowKit

theorem or_step (X : Int) (y : Nat) (hy : y < 256) : bits .or .i64 (wrap64 (IntKind.i64.wrap X * 256)) (y : Int) = IntKind.i64.wrap (256 * X + y) := by
  have ha : (BitVec.ofInt 64 (wrap64 (IntKind.i64.wrap X * 256))).toNat = ((256 * X) % 18446744073709551616).toNat := by
    rw [BitVec.toNat_ofInt]
    unfold wrap64
    rw [IntKind.wrap_i64]
    omega
  have hb : (BitVec.ofInt 64 (y : Int)).toNat = y := by
    rw [BitVec.toNat_ofInt]
    omega
  have hor : (BitVec.ofInt 64 (wrap64 (IntKind.i64.wrap X * 256)) ||| BitVec.ofInt 64 (y : Int)).toNat = ((256 * X) % 18446744073709551616).toNat + y := by
    rw [BitVec.toNat_or, ha, hb]
    exact nat_join 8 _ _ (by omega) (by omega)
  show IntKind.i64.wrap (((BitVec.ofInt 64 (wrap64 (IntKind.i64.wrap X * 256)) ||| BitVec.ofInt 64 (y : Int)).toNat : Nat) : Int) = _
  rw [hor, IntKind.wrap_i64, IntKind.wrap_i64]
  omega
end Go.Proofs.YtkpcinkpdonihaaDoor
