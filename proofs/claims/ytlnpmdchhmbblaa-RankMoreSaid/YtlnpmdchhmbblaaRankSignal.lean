/- bilgelaw20.signal: a number as a signal. -/
import Derived.Test.YtlnpmdchhmbblaaRankMorePlain
namespace Go.Proofs.Ytlnpmdchhmbblaa
open Go.RowKit

theorem signal_any (n : UInt8) (w : World) :
    Calls Try.prog 14 #[.int .u8 n.toNat] w fun e w' => e = .returned (.int .i64 ((n.toNat % 3 : Nat) : Int)) ∧ w = w' := by
  have hn : n.toNat < 256 := UInt8.toNat_lt n
  obtain ⟨k, hk⟩ : ∃ k : Nat, n.toNat = k := ⟨_, rfl⟩
  rw [hk] at hn ⊢
  have e1 : ((k : Int)).tmod 3 = ((k % 3 : Nat) : Int) := by rw [Int.tmod_eq_emod_of_nonneg (by omega)]; omega
  have e2 : IntKind.u8.wrap ((k % 3 : Nat) : Int) = ((k % 3 : Nat) : Int) := by unfold IntKind.wrap; simp [IntKind.bits, IntKind.signed]; omega
  have e3 : IntKind.i64.wrap ((k % 3 : Nat) : Int) = ((k % 3 : Nat) : Int) := by rw [IntKind.wrap_i64]; omega
  go_enter Try.func14, Try.ntmps14
  go_wp2_with fail
  go_ret
  exact ⟨rfl, rfl⟩
end Go.Proofs.Ytlnpmdchhmbblaa
