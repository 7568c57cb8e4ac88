/- What the Rank laws share: the guards' contracts by their values, the sample in its box. -/
import Derived.Test.YtlnpmdchhmbblaaRankRaw
import Derived.Test.YtlnpmdchhmbblaaRankTwo
import Derived.Test.YtlnpmdchhmbblaaRefFirst20
namespace Go.Proofs.Ytlnpmdchhmbblaa
open Go.RowKit

theorem Rw.Wf.below {r : Rw} {w W : World} (h : r.Wf w) (hb : Below w.heap.size w W) : r.Wf W := ⟨h.h0, h.h1, h.h2, h.time, h.rds.below hb, h.us, h.ids, h.len, h.cap⟩
theorem smallV_any {p : Pd} {v : Bool} (hv : p.small = v) (w : World) :
    Calls Try.prog 16 #[.agg p.cells] w fun e w' => e = .returned (.bool v) ∧ Below w.heap.size w w' := by subst hv; exact small_any p w
theorem few3_any {a b c : Pd} {v : Bool} (hv : fewB [a, b, c] = v) (w : World) :
    Calls Try.prog 12 #[.slice (some ⟨w.heap.size, 0, none⟩) 3 3] (w.alloc (.cells #[.string a.id, .int .i64 a.prio, .bool a.crit, .int .i64 a.q0, .int .i64 a.q1, .int .i64 a.q2, .int .i64 a.l0, .int .i64 a.l1, .int .i64 a.l2, .string a.image, .int .i64 a.size, .string b.id, .int .i64 b.prio, .bool b.crit, .int .i64 b.q0, .int .i64 b.q1, .int .i64 b.q2, .int .i64 b.l0, .int .i64 b.l1, .int .i64 b.l2, .string b.image, .int .i64 b.size, .string c.id, .int .i64 c.prio, .bool c.crit, .int .i64 c.q0, .int .i64 c.q1, .int .i64 c.q2, .int .i64 c.l0, .int .i64 c.l1, .int .i64 c.l2, .string c.image, .int .i64 c.size] 24)) fun e w' => e = .returned (.bool v) ∧ Below (w.alloc (.cells #[.string a.id, .int .i64 a.prio, .bool a.crit, .int .i64 a.q0, .int .i64 a.q1, .int .i64 a.q2, .int .i64 a.l0, .int .i64 a.l1, .int .i64 a.l2, .string a.image, .int .i64 a.size, .string b.id, .int .i64 b.prio, .bool b.crit, .int .i64 b.q0, .int .i64 b.q1, .int .i64 b.q2, .int .i64 b.l0, .int .i64 b.l1, .int .i64 b.l2, .string b.image, .int .i64 b.size, .string c.id, .int .i64 c.prio, .bool c.crit, .int .i64 c.q0, .int .i64 c.q1, .int .i64 c.q2, .int .i64 c.l0, .int .i64 c.l1, .int .i64 c.l2, .string c.image, .int .i64 c.size] 24)).heap.size (w.alloc (.cells #[.string a.id, .int .i64 a.prio, .bool a.crit, .int .i64 a.q0, .int .i64 a.q1, .int .i64 a.q2, .int .i64 a.l0, .int .i64 a.l1, .int .i64 a.l2, .string a.image, .int .i64 a.size, .string b.id, .int .i64 b.prio, .bool b.crit, .int .i64 b.q0, .int .i64 b.q1, .int .i64 b.q2, .int .i64 b.l0, .int .i64 b.l1, .int .i64 b.l2, .string b.image, .int .i64 b.size, .string c.id, .int .i64 c.prio, .bool c.crit, .int .i64 c.q0, .int .i64 c.q1, .int .i64 c.q2, .int .i64 c.l0, .int .i64 c.l1, .int .i64 c.l2, .string c.image, .int .i64 c.size] 24)) w' := by
  subst hv
  have hr := Rds.made w encP [a, b, c] 24 #[.string a.id, .int .i64 a.prio, .bool a.crit, .int .i64 a.q0, .int .i64 a.q1, .int .i64 a.q2, .int .i64 a.l0, .int .i64 a.l1, .int .i64 a.l2, .string a.image, .int .i64 a.size, .string b.id, .int .i64 b.prio, .bool b.crit, .int .i64 b.q0, .int .i64 b.q1, .int .i64 b.q2, .int .i64 b.l0, .int .i64 b.l1, .int .i64 b.l2, .string b.image, .int .i64 b.size, .string c.id, .int .i64 c.prio, .bool c.crit, .int .i64 c.q0, .int .i64 c.q1, .int .i64 c.q2, .int .i64 c.l0, .int .i64 c.l1, .int .i64 c.l2, .string c.image, .int .i64 c.size] (0, 0) rfl
  exact few_any [a, b, c] _ 3 _ hr (by simp only [List.length_cons, List.length_nil]; omega)
theorem fewW_any {r : Rw} {v : Bool} (hv : fewR r.uses = v) {w : World} (h : r.Wf w) :
    Calls Try.prog 17 #[.agg r.cells] w fun e w' => e = .returned (.bool v) ∧ Below w.heap.size w w' := few17V_any hv w h.rds (Nat.le_trans h.len h.cap) h.ids
theorem rightY_any {r : Rw} (hv : RightR r) {w : World} (h : r.Wf w) :
    Calls Try.prog 18 #[.agg r.cells] w fun e w' => e = .returned (.bool true) ∧ Below w.heap.size w w' := right17V_any ⟨fun _ => hv, fun _ => rfl⟩ w h
theorem rightN_any {r : Rw} (hv : ¬ RightR r) {w : World} (h : r.Wf w) :
    Calls Try.prog 18 #[.agg r.cells] w fun e w' => e = .returned (.bool false) ∧ Below w.heap.size w w' := right17V_any ⟨fun e => (by cases e), fun e => absurd e hv⟩ w h
/-- it gives this sample, its uses in memory of their own -/
def GivesU (t V0 V1 V2 : Int) (us : List Us) (w : World) (e : Ending) (w' : World) : Prop :=
  ∃ A c, e = .returned (.agg #[.int .i64 t, .int .i64 V0, .int .i64 V1, .int .i64 V2, .slice A us.length c]) ∧ Own w' w.heap.size 33 encU (.slice A us.length c) us ∧ Below w.heap.size w w'
theorem readW_any {r : Rw} {V0 V1 V2 : Int} {us : List Us} (h0 : readN r.v0 = V0) (h1 : readN r.v1 = V1) (h2 : readN r.v2 = V2) (hu : readUses r.uses = us) (hR : RightR r) {w : World} (h : r.Wf w) :
    Calls Try.prog 19 #[.agg r.cells] w (GivesU r.time V0 V1 V2 us w) := by
  subst h0 h1 h2 hu
  exact read17_any r w h hR.len
/-- a sample in its box -/
structure SB (s : Sp) (n : Nat) (W : World) : Prop where
  smp : Blk W n 36 s.cells
  rds : Rds W encU s.A s.uses
theorem SB.below {s : Sp} {n : Nat} {W W' : World} (h : SB s n W) (hb : Below W.heap.size W W') : SB s n W' := ⟨h.smp.belowAll hb, h.rds.below hb⟩
theorem SB.alloc {s : Sp} {n : Nat} {W : World} (h : SB s n W) (o : Obj) : SB s n (W.alloc o) := ⟨h.smp.alloc o, h.rds.alloc o⟩
theorem SB.drew {s : Sp} {n : Nat} {W : World} (h : SB s n W) : SB s n W.drew := ⟨h.smp.drew, h.rds.drew⟩
theorem SB.new (s : Sp) (W : World) (hr : Rds W encU s.A s.uses) : SB s W.heap.size (W.alloc (.cells s.cells 36)) := ⟨Blk.new _ _ _, hr.alloc _⟩
theorem aheadS {k : Int} (hk : k = 0 ∨ k = 1 ∨ k = 2) {a b : Pd} {s : Sp} {n : Nat} {v : Bool} {W : World} (hv : aheadB k a b s.uses = v) (h : SB s n W) (hu : UsOk k s.uses) (ha : a.Wf ∧ a.right = true) (hb : b.Wf ∧ b.right = true) :
    Calls Try.prog 15 #[.int .i64 k, .agg a.cells, .agg b.cells, .agg s.cells] W fun e w' => e = .returned (.bool v) ∧ Below W.heap.size W w' := aheadV_any hk hv W h.rds hu.len hu.s (hu.ex a ha.1 ha.2) (hu.ex b hb.1 hb.2)
theorem refAheadS {k : Int} (hk : k = 0 ∨ k = 1 ∨ k = 2) {a b : Pd} {s : Sp} {n : Nat} {v : Bool} {W : World} (hv : aheadB k a b s.uses = v) (h : SB s n W) (hu : UsOk k s.uses) (ha : a.Wf ∧ a.right = true) (hb : b.Wf ∧ b.right = true) :
    Calls Try.prog 22 #[.int .i64 k, .agg a.cells, .agg b.cells, .agg s.cells] W fun e w' => e = .returned (.bool v) ∧ Below W.heap.size W w' := refAheadV_any hk hv W h.rds hu.len hu.s (hu.ex a ha.1 ha.2) (hu.ex b hb.1 hb.2)
theorem askedW {p : Pd} {k q : Int} (hq : asked p k = q) (W : World) :
    Calls Try.prog 20 #[.agg p.cells, .int .i64 k] W fun e w' => e = .returned (.int .i64 q) ∧ Below W.heap.size W w' := by subst hq; exact asked_any p k W
theorem refAskedW {p : Pd} {k q : Int} (hq : asked p k = q) (W : World) :
    Calls Try.prog 21 #[.agg p.cells, .int .i64 k] W fun e w' => e = .returned (.int .i64 q) ∧ Below W.heap.size W w' := by subst hq; exact refAsked_any p k W
theorem mayW {x : En} {v : Bool} (hv : mayB x = v) (W : World) :
    Calls Try.prog 23 #[.agg x.cells] W fun e w' => e = .returned (.bool v) ∧ Below W.heap.size W w' := by subst hv; exact may_any x W
theorem refMayW {x : En} {v : Bool} (hv : mayB x = v) (W : World) :
    Calls Try.prog 24 #[.agg x.cells] W fun e w' => e = .returned (.bool v) ∧ Below W.heap.size W w' := by subst hv; exact refMay_any x W
end Go.Proofs.Ytlnpmdchhmbblaa
