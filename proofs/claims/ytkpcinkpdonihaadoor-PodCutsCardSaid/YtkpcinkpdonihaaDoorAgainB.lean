/- Bytes among the arguments of a row. -/
import Derived.Test.YtkpcinkpdonihaaDoorAgain
namespace Go.Proofs.YtkpcinkpdonihaaDoor
open Go.ChangeShapes Go.WideShapes Go.ChangeAt Go.RowKit
section
variable {H : Type} {enc : TypeId × Value → H} {w : World} {base : Nat} {spare : Nat → Bool} {held : Bool}
theorem trod_byte {fuel : Nat} {cs : List Value} {y : DataW H × List MemPlace} (h : DataW.trod enc Tryd.prog w base spare held fuel 5 cs = some y) : ∃ x : UInt8, True ∧ cs = encB.enc x := by
  obtain ⟨a, hcs, _, wf⟩ := DataW.trod_int Tryd.underlying5 h
  subst hcs
  have e1 : IntKind.u8.min = 0 := by decide
  have e2 : IntKind.u8.max = 255 := by decide
  have h2 : 0 ≤ a ∧ a ≤ 255 := by simpa [Lit.wf, e1, e2] using wf
  refine ⟨UInt8.ofNat a.toNat, trivial, ?_⟩
  show _ = [Value.int .u8 _]
  rw [UInt8.toNat_ofNat', Nat.mod_eq_of_lt (by omega), Int.toNat_of_nonneg h2.1]
theorem cells_byte : Tryd.prog.cellsOf 5 = 1 := by kernel_rfl
theorem open_bytes {r : Reach} {b0 : Nat} {v : Value} {d : DataW H} {ps : List MemPlace} (hval : Value.okWide Tryd.prog w r b0 22 v) (hd : DataW.Trod enc Tryd.prog w base spare held 22 v d ps) :
    ∃ A l c, v = .slice A l.length c ∧ l.length ≤ c ∧ c ≤ 9223372036854775807 ∧ Rds w encB A l := by
  obtain ⟨A, l, c, h1, h2, h3, h4, _⟩ := open_rds_val Tryd.underlying22 encB cells_byte (fun _ => True) (fun _ _ _ => trod_byte) hval hd
  exact ⟨A, l, c, h1, h2, h3, h4⟩
end

theorem open_u8 {H : Type} {enc : TypeId × Value → H} {w : World} {base : Nat} {spare : Nat → Bool} {held : Bool} {r : Reach} {b0 : Nat} {v : Value} {d : DataW H} {ps : List MemPlace} (hval : Value.okWide Tryd.prog w r b0 5 v) (hd : DataW.Trod enc Tryd.prog w base spare held 5 v d ps) :
    ∃ x : UInt8, v = .int .u8 x.toNat := by
  obtain ⟨n, rfl⟩ := okWide_int Tryd.underlying5 hval
  obtain ⟨fuel, hf⟩ := hd
  obtain ⟨x, _, hx⟩ := trod_byte hf
  have hx' : [Value.int .u8 n] = [Value.int .u8 x.toNat] := hx
  simp only [List.cons.injEq, and_true] at hx'
  exact ⟨x, hx'⟩
end Go.Proofs.YtkpcinkpdonihaaDoor
