/- Two uses, in the order of their names; a number as a signal, by its value. -/
import Derived.Test.YtlnpmdchhmbblaaLawRankKeys
import Derived.Test.YtlnpmdchhmbblaaRankSignal
namespace Go.Proofs.Ytlnpmdchhmbblaa
open Go.RowKit

/-- three small numbers -/
structure U3 where
  x0 : Nat
  x1 : Nat
  x2 : Nat
abbrev c3 (u : U3) : Array Value := #[.int .u32 u.x0, .int .u32 u.x1, .int .u32 u.x2]
structure U3.Wf (u : U3) : Prop where
  h0 : u.x0 < 4294967296
  h1 : u.x1 < 4294967296
  h2 : u.x2 < 4294967296
theorem signalV {n : UInt8} {k : Int} (h : (n.toNat : Int) % 3 = k) (w : World) :
    Calls Try.prog 14 #[.int .u8 n.toNat] w fun e w' => e = .returned (.int .i64 k) ∧ w = w' := by
  subst h
  have := signal_any n w
  rwa [show ((n.toNat % 3 : Nat) : Int) = (n.toNat : Int) % 3 by omega] at this
theorem signal_cases (n : UInt8) : (n.toNat : Int) % 3 = 0 ∨ (n.toNat : Int) % 3 = 1 ∨ (n.toNat : Int) % 3 = 2 := by omega

structure Two (a b : Pd) (X Y : Us) (L : List Us) : Prop where
  s : SortedU L
  ua : usOf L a.id = X
  ub : usOf L b.id = Y
theorem Two.ab {a b : Pd} {X Y : Us} (h : blt a.id b.id = true) (hx : X.id = a.id) (hy : Y.id = b.id) : Two a b X Y [X, Y] :=
  ⟨(usOf2 h X Y hx hy).1, (usOf2 h X Y hx hy).2.1, (usOf2 h X Y hx hy).2.2⟩
theorem Two.ba {a b : Pd} {X Y : Us} (h : blt b.id a.id = true) (hx : X.id = a.id) (hy : Y.id = b.id) : Two a b X Y [Y, X] :=
  ⟨(usOf2 h Y X hy hx).1, (usOf2 h Y X hy hx).2.2, (usOf2 h Y X hy hx).2.1⟩
theorem Two.exA {a b : Pd} {X Y : Us} {L : List Us} (h : Two a b X Y L) (k : Int) : excess k a L = amt k X - asked a k := by unfold excess; rw [h.ua]
theorem Two.exB {a b : Pd} {X Y : Us} {L : List Us} (h : Two a b X Y L) (k : Int) : excess k b L = amt k Y - asked b k := by unfold excess; rw [h.ub]
structure Us.Sm (x : Us) : Prop where
  l0 : 0 ≤ x.a0
  l1 : 0 ≤ x.a1
  l2 : 0 ≤ x.a2
  u0 : x.a0 ≤ 9223372036854775807
  u1 : x.a1 ≤ 9223372036854775807
  u2 : x.a2 ≤ 9223372036854775807
theorem Us.Sm.amt {x : Us} (h : x.Sm) (k : Int) : 0 ≤ amt k x ∧ amt k x ≤ 9223372036854775807 := by
  have := h.l0; have := h.l1; have := h.l2; have := h.u0; have := h.u1; have := h.u2
  unfold Go.Proofs.Ytlnpmdchhmbblaa.amt
  split
  · omega
  · split <;> omega
theorem asked_bd {p : Pd} (h : p.Wf) (hr : p.right = true) (k : Int) : 0 ≤ asked p k ∧ asked p k ≤ 9223372036854775807 := by
  have h1 := h.q1.2; have h2 := h.q2.2
  unfold Pd.right Pd.amountsOk bad at hr
  simp at hr
  unfold asked
  split
  · omega
  · split <;> omega
theorem exok_of {k : Int} {p : Pd} {L : List Us} (hp : p.Wf) (hr : p.right = true) (h : (usOf L p.id).Sm) : ExOk k p L := by
  have h1 := h.amt k
  have h2 := asked_bd hp hr k
  exact ⟨by unfold excess; omega, by unfold excess; omega⟩
theorem ahead_tw {k : Int} (hk : k = 0 ∨ k = 1 ∨ k = 2) {a b c d : Pd} {X Y x y : Us} {v : Bool} {N : Nat} {W : World} (ht : Two a b X Y [x, y]) (hv : aheadB k c d [x, y] = v) (hr : Rds W encU (some ⟨N, 0, none⟩) [x, y]) (hc : ExOk k c [x, y]) (hd : ExOk k d [x, y]) :
    Calls Try.prog 15 #[.int .i64 k, .agg c.cells, .agg d.cells, .agg #[.int .i64 0, .int .i64 0, .int .i64 0, .int .i64 0, .slice (some ⟨N, 0, none⟩) 2 2]] W fun e w' => e = .returned (.bool v) ∧ Below W.heap.size W w' :=
  aheadV_any (s := ⟨0, 0, 0, 0, some ⟨N, 0, none⟩, [x, y], 2⟩) hk hv W hr (show ([x, y] : List Us).length ≤ 100000 by simp) ht.s hc hd
end Go.Proofs.Ytlnpmdchhmbblaa
