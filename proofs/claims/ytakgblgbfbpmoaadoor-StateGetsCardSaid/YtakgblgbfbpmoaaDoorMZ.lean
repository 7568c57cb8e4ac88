/- Several texts in one: What is got is put as it stood: the plain law. Bytes among the arguments of a row. -/
import Derived.Test.YtakgblgbfbpmoaaDoorMR
import Derived.Test.YtakgblgbfbpmoaaDoorMU
namespace Go.Proofs.YtakgblgbfbpmoaaDoor
open Go.RowKit

theorem ents_put : ∀ (k : Nat) (m : List UInt8) (l : List En) (t : List UInt8), entsD k m = some (l, t) → m = flatB l ++ t ∧ (∀ x ∈ l, x.pod.Wf) ∧ l.length = k
  | 0, m, l, t, h => by
    simp only [entsD, Option.some.injEq, Prod.mk.injEq] at h
    obtain ⟨rfl, rfl⟩ := h
    exact ⟨rfl, by simp, rfl⟩
  | k + 1, [], l, t, h => by simp [entsD] at h
  | k + 1, x :: m, l, t, h => by
    cases hc : cutOf m with
    | none => rw [entsD_bad (.inr ⟨x, m, rfl, hc⟩)] at h; cases h
    | some q =>
      obtain ⟨p, r⟩ := q
      rw [entsD_go (k := k) (x := x) (z := ⟨p, (x.toNat : Int)⟩) hc rfl] at h
      cases he : entsD k r with
      | none => rw [he] at h; cases h
      | some q =>
        obtain ⟨es, r'⟩ := q
        rw [he] at h
        simp only [Option.map_some, Option.some.injEq, Prod.mk.injEq] at h
        obtain ⟨rfl, rfl⟩ := h
        obtain ⟨h1, h2, h3⟩ := ents_put k r es r' he
        obtain ⟨c1, c2, c3⟩ := cut_put hc
        refine ⟨?_, ?_, by rw [List.length_cons, h3]⟩
        · have hx : UInt8.ofNat ((x.toNat : Int)).toNat = x := byte_eq (by rw [UInt8.toNat_ofNat', Int.toNat_natCast, Nat.mod_eq_of_lt x.toNat_lt])
          show x :: m = UInt8.ofNat ((x.toNat : Int)).toNat :: p.bytes ++ flatB es ++ r'
          rw [hx, c3, h1]
          simp
        · intro z hz
          rcases List.mem_cons.1 hz with rfl | hz
          · exact c1
          · exact h2 z hz
theorem onB_bits (y : UInt8) (h : y.toNat < 8) : onB (bitD y 0) (bitD y 1) (bitD y 2) = y := by
  have e : ∀ n : Nat, n < 8 → ∀ z : UInt8, z.toNat = n → onB (bitD z 0) (bitD z 1) (bitD z 2) = z := by
    intro n hn z hz
    obtain rfl : z = UInt8.ofNat n := byte_eq (by rw [UInt8.toNat_ofNat', hz, Nat.mod_eq_of_lt (by omega)])
    obtain rfl | rfl | rfl | rfl | rfl | rfl | rfl | rfl : n = 0 ∨ n = 1 ∨ n = 2 ∨ n = 3 ∨ n = 4 ∨ n = 5 ∨ n = 6 ∨ n = 7 := by omega
    all_goals decide
  exact e _ h y rfl
theorem put_got {L : List UInt8} {rd : Int} {a b c : Bool} {l : List En} (h : GotD L rd a b c l) : putS rd a b c l = L ∧ ∀ x ∈ l, x.pod.Wf := by
  obtain ⟨h1, h2, h3⟩ := ents_put _ _ _ _ h.ents
  refine ⟨?_, h2⟩
  have hl := h.rt.len
  have h9 : UInt8.ofNat l.length = L.getD 9 0 := byte_eq (by
    have := (L.getD 9 0).toNat_lt
    rw [UInt8.toNat_ofNat', h3]
    omega)
  unfold putS headB
  rw [h.er, word_be L (by have := h.len; omega), h.e0, h.e1, h.e2, onB_bits _ h.on, h9]
  have hd : L.drop 10 = flatB l := by rw [h1, List.append_nil]
  rw [← hd]
  have h8 : L.drop 8 = L.getD 8 0 :: L.getD 9 0 :: L.drop 10 := by
    have := h.len
    rw [List.drop_eq_getElem_cons (by omega), List.drop_eq_getElem_cons (by omega), List.getD_eq_getElem?_getD, List.getD_eq_getElem?_getD, List.getElem?_eq_getElem (by omega), List.getElem?_eq_getElem (by omega)]
    rfl
  rw [List.append_assoc]
  show L.take 8 ++ (L.getD 8 0 :: L.getD 9 0 :: L.drop 10) = L
  rw [← h8, List.take_append_drop]
end Go.Proofs.YtakgblgbfbpmoaaDoor

namespace Go.Proofs.YtakgblgbfbpmoaaDoor
open Go.ChangeShapes Go.WideShapes Go.ChangeAt Go.RowKit
section
variable {H : Type} {enc : TypeId × Value → H} {w : World} {base : Nat} {spare : Nat → Bool} {held : Bool}
theorem trod_byte {fuel : Nat} {cs : List Value} {y : DataW H × List MemPlace} (h : DataW.trod enc Tryd.prog w base spare held fuel 5 cs = some y) : ∃ x : UInt8, True ∧ cs = encB.enc x := by
  obtain ⟨a, hcs, _, wf⟩ := DataW.trod_int Tryd.underlying5 h
  subst hcs
  have e1 : IntKind.u8.min = 0 := by decide
  have e2 : IntKind.u8.max = 255 := by decide
  have h2 : 0 ≤ a ∧ a ≤ 255 := by simpa [Lit.wf, e1, e2] using wf
  refine ⟨UInt8.ofNat a.toNat, trivial, ?_⟩
  show _ = [Value.int .u8 _]
  rw [UInt8.toNat_ofNat', Nat.mod_eq_of_lt (by omega), Int.toNat_of_nonneg h2.1]
theorem cells_byte : Tryd.prog.cellsOf 5 = 1 := by kernel_rfl
set_option maxRecDepth 100000 in
theorem open_bytes {r : Reach} {b0 : Nat} {v : Value} {d : DataW H} {ps : List MemPlace} (hval : Value.okWide Tryd.prog w r b0 28 v) (hd : DataW.Trod enc Tryd.prog w base spare held 28 v d ps) :
    ∃ A l c, v = .slice A l.length c ∧ l.length ≤ c ∧ c ≤ 9223372036854775807 ∧ Rds w encB A l := by
  obtain ⟨A, l, c, h1, h2, h3, h4, _⟩ := open_rds_val Tryd.underlying28 encB cells_byte (fun _ => True) (fun _ _ _ => trod_byte) hval hd
  exact ⟨A, l, c, h1, h2, h3, h4⟩
end

set_option maxRecDepth 100000 in
theorem open_u8 {H : Type} {enc : TypeId × Value → H} {w : World} {base : Nat} {spare : Nat → Bool} {held : Bool} {r : Reach} {b0 : Nat} {v : Value} {d : DataW H} {ps : List MemPlace} (hval : Value.okWide Tryd.prog w r b0 5 v) (hd : DataW.Trod enc Tryd.prog w base spare held 5 v d ps) :
    ∃ x : UInt8, v = .int .u8 x.toNat := by
  obtain ⟨n, rfl⟩ := okWide_int Tryd.underlying5 hval
  obtain ⟨fuel, hf⟩ := hd
  obtain ⟨x, _, hx⟩ := trod_byte hf
  have hx' : [Value.int .u8 n] = [Value.int .u8 x.toNat] := hx
  simp only [List.cons.injEq, and_true] at hx'
  exact ⟨x, hx'⟩
end Go.Proofs.YtakgblgbfbpmoaaDoor
