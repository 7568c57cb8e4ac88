/- admit.Barred: the signal whose condition bars a pod. -/
import Derived.Test.YtlhmhcidknadmaaDoorAClass
namespace Go.Proofs.YtlhmhcidknadmaaDoor
open Go.RowKit

def barD (a b c : Bool) (p : Pd) : Int × Bool := if p.crit = true then (0, false) else if (a && p.none3) = true then (0, true) else if b = true then (1, true) else if c = true then (2, true) else (0, false)
/-- none of the first k bars -/
def NotBar (a b c : Bool) (p : Pd) (k : Nat) : Prop := (0 < k → (a && p.none3) = false) ∧ (1 < k → b = false) ∧ (2 < k → c = false)
theorem idxb_0 (x0 x1 x2 : Value) (w : World) : (Instr.index 27 (.agg #[x0, x1, x2]) (.int .i64 0)).run Tryd.prog w = .ok x0 w := by kernel_rfl
theorem idxb_1 (x0 x1 x2 : Value) (w : World) : (Instr.index 27 (.agg #[x0, x1, x2]) (.int .i64 1)).run Tryd.prog w = .ok x1 w := by kernel_rfl
theorem idxb_2 (x0 x1 x2 : Value) (w : World) : (Instr.index 27 (.agg #[x0, x1, x2]) (.int .i64 2)).run Tryd.prog w = .ok x2 w := by kernel_rfl
attribute [go_sem] idxb_0 idxb_1 idxb_2
def GivesB (a b c : Bool) (p : Pd) (w : World) (e : Ending) (w' : World) : Prop := e = .returned (.tuple #[.int .i64 (barD a b c p).1, .bool (barD a b c p).2]) ∧ Below w.heap.size w w'
structure BQ (a b c : Bool) (p : Pd) (w W : World) : Prop where
  on : Blk W (w.heap.size) 27 #[.bool a, .bool b, .bool c]
  pb : Blk W (w.heap.size + 1) 29 #[.string p.id, .int .i64 p.prio, .bool p.crit, .int .i64 p.q0, .int .i64 p.q1, .int .i64 p.q2, .int .i64 p.l0, .int .i64 p.l1, .int .i64 p.l2, .string p.image, .int .i64 p.size]
  bel : Below w.heap.size w W
theorem BQ.below {a b c : Bool} {p : Pd} {w W W' : World} (h : BQ a b c p w W) (hb : Below W.heap.size W W') : BQ a b c p w W' := ⟨h.on.belowAll hb, h.pb.belowAll hb, h.bel.trans (hb.mono h.bel.size)⟩
theorem BQ.alloc {a b c : Bool} {p : Pd} {w W : World} (h : BQ a b c p w W) (o : Obj) : BQ a b c p w (W.alloc o) := ⟨h.on.alloc o, h.pb.alloc o, h.bel.alloc h.bel.size o⟩
theorem BQ.drew {a b c : Bool} {p : Pd} {w W : World} (h : BQ a b c p w W) : BQ a b c p w W.drew := ⟨h.on.drew, h.pb.drew, h.bel.drew⟩
theorem BQ.new (a b c : Bool) (p : Pd) (w : World) : BQ a b c p w ((w.alloc (.cells #[.bool a, .bool b, .bool c] 27)).alloc (.cells #[.string p.id, .int .i64 p.prio, .bool p.crit, .int .i64 p.q0, .int .i64 p.q1, .int .i64 p.q2, .int .i64 p.l0, .int .i64 p.l1, .int .i64 p.l2, .string p.image, .int .i64 p.size] 29)) := by
  have z1 : (w.alloc (.cells #[.bool a, .bool b, .bool c] 27)).heap.size = w.heap.size + 1 := by simp
  have b0 := Blk.new w 27 #[.bool a, .bool b, .bool c]
  have b1 := Blk.new (w.alloc (.cells #[.bool a, .bool b, .bool c] 27)) 29 #[.string p.id, .int .i64 p.prio, .bool p.crit, .int .i64 p.q0, .int .i64 p.q1, .int .i64 p.q2, .int .i64 p.l0, .int .i64 p.l1, .int .i64 p.l2, .string p.image, .int .i64 p.size]
  rw [z1] at b1
  have bel : Below w.heap.size w ((w.alloc (.cells #[.bool a, .bool b, .bool c] 27)).alloc (.cells #[.string p.id, .int .i64 p.prio, .bool p.crit, .int .i64 p.q0, .int .i64 p.q1, .int .i64 p.q2, .int .i64 p.l0, .int .i64 p.l1, .int .i64 p.l2, .string p.image, .int .i64 p.size] 29)) := ((Below.refl w.heap.size w).alloc (Nat.le_refl _) _).alloc (by rw [z1]; omega) _
  exact ⟨(b0.alloc _), b1, bel⟩

set_option maxRecDepth 100000 in
set_option maxHeartbeats 4000000 in
theorem barred_any (a b c : Bool) (p : Pd) (w : World) : Calls Tryd.prog 21 #[.agg #[.bool a, .bool b, .bool c], .agg p.cells] w (GivesB a b c p w) := by
  have HQ := Lib.hid (BQ.new a b c p w)
  cases hc : p.crit
  rotate_left
  · have HV : Hid (barD a b c p = (0, false)) := by show _ = _; unfold barD; rw [if_pos hc]
    go_enter Tryd.func21, Tryd.ntmps21
    go_wp2_with fail
    go_ret2
    exact ⟨by show _ = _; rw [HV.out]; rfl, HQ.out.bel⟩
  · have HC := Lib.hid hc
    go_enter Tryd.func21, Tryd.ntmps21
    go_wp2_with fail
    clear hc
    generalize ((w.alloc (.cells #[.bool a, .bool b, .bool c] 27)).alloc (.cells #[.string p.id, .int .i64 p.prio, .bool p.crit, .int .i64 p.q0, .int .i64 p.q1, .int .i64 p.q2, .int .i64 p.l0, .int .i64 p.l1, .int .i64 p.l2, .string p.image, .int .i64 p.size] 29)) = w1 at *
    go_loopw [6, 7, 11] (fun sg is ii wr => ∃ i : Nat, i ≤ 3 ∧ ii = .int .i64 i ∧ NotBar a b c p i ∧ BQ a b c p w wr) (fun _ _ ii _ => 3 - (intOf ii).toNat)
    case atStart => exact ⟨0, by omega, rfl, ⟨fun h => by omega, fun h => by omega, fun h => by omega⟩, HQ.out⟩
    case round =>
      clear HQ
      obtain ⟨i, hi, rfl, hnb, hq⟩ := hrel
      have HNO := Lib.hid hnb
      have HQ := Lib.hid hq
      clear hnb hq
      obtain rfl | rfl | rfl | rfl : i = 0 ∨ i = 1 ∨ i = 2 ∨ i = 3 := by omega
      · cases a
        · have HNB : Hid (NotBar false b c p 1) := ⟨fun _ => rfl, fun h => by omega, fun h => by omega⟩
          go_wp2_with fail
          go_roundw
          case rel => exact ⟨1, by omega, by rfl, HNB.out, HQ.out⟩
          case measure => simp [intOf]
        · have cp := HQ.out.pb.cell
          go_wp2_with fail
          refine (class_any p _).mono ?_; rintro e w2 ⟨k, rfl, hk, hb⟩
          have HQ := Lib.hid (HQ.out.below hb)
          clear hb cp
          obtain ⟨v, hv⟩ : ∃ v, p.none3 = v := ⟨_, rfl⟩
          have HN3 := Lib.hid hv
          rw [hv] at hk
          clear hv
          cases v
          · have HNB : Hid (NotBar true b c p 1) := ⟨fun _ => by rw [HN3.out]; rfl, fun h => by omega, fun h => by omega⟩
            go_wp2_with fail
            go_roundw
            case rel => exact ⟨1, by omega, by rfl, HNB.out, HQ.out⟩
            case measure => simp [intOf]
          · have HV : Hid (barD true b c p = (0, true)) := by show _ = _; unfold barD; rw [if_neg (by rw [HC.out]; simp), if_pos (by rw [HN3.out]; rfl)]
            go_wp2_with fail
            go_ret2
            exact ⟨by show _ = _; rw [HV.out]; rfl, HQ.out.bel⟩
      · cases b
        · have HNB : Hid (NotBar a false c p 2) := ⟨fun _ => HNO.out.1 (by omega), fun _ => rfl, fun h => by omega⟩
          go_wp2_with fail
          go_roundw
          case rel => exact ⟨2, by omega, by rfl, HNB.out, HQ.out⟩
          case measure => simp [intOf]
        · have HV : Hid (barD a true c p = (1, true)) := by show _ = _; unfold barD; rw [if_neg (by rw [HC.out]; simp), if_neg (by rw [HNO.out.1 (by omega)]; simp), if_pos rfl]
          go_wp2_with fail
          go_ret2
          exact ⟨by show _ = _; rw [HV.out]; rfl, HQ.out.bel⟩
      · cases c
        · have HNB : Hid (NotBar a b false p 3) := ⟨fun _ => HNO.out.1 (by omega), fun _ => HNO.out.2.1 (by omega), fun _ => rfl⟩
          go_wp2_with fail
          go_roundw
          case rel => exact ⟨3, by omega, by rfl, HNB.out, HQ.out⟩
          case measure => simp [intOf]
        · have HV : Hid (barD a b true p = (2, true)) := by show _ = _; unfold barD; rw [if_neg (by rw [HC.out]; simp), if_neg (by rw [HNO.out.1 (by omega)]; simp), if_neg (by rw [HNO.out.2.1 (by omega)]; simp), if_pos rfl]
          go_wp2_with fail
          go_ret2
          exact ⟨by show _ = _; rw [HV.out]; rfl, HQ.out.bel⟩
      · have HV : Hid (barD a b c p = (0, false)) := by show _ = _; unfold barD; rw [if_neg (by rw [HC.out]; simp), if_neg (by rw [HNO.out.1 (by omega)]; simp), if_neg (by rw [HNO.out.2.1 (by omega)]; simp), if_neg (by rw [HNO.out.2.2 (by omega)]; simp)]
        go_wp2_with fail
        go_ret2
        exact ⟨by show _ = _; rw [HV.out]; rfl, HQ.out.bel⟩
end Go.Proofs.YtlhmhcidknadmaaDoor
