/- Several texts in one: What the Victim laws share: boxes under stores, a slice that grows apart; nobody may go. Entries; bilgeref20.Fit: may a table be? != of a pod with itself. qos.Class: whether a pod asks for nothing, and has no limits. admit.Barred: the signal whose condition bars a pod. slices.ContainsFunc with Decide's closure: is there an entry of that Id? The program's pod.Named and pod.Right. The plain laws of who goes: what fits still fits with less; nobody goes just if all fit. Who goes doesn't hang on the order of the list. bilgeref21.Has: is a text one of these? -/
import Derived.KernelRfl
import Derived.Laws.StructEq
import Derived.Test.YtakgblgbfbpmoaaDoorMC
import Derived.Test.YtakgblgbfbpmoaaDoorMB
import Derived.Test.YtakgblgbfbpmoaaDoorShelf
namespace Go.Proofs.YtakgblgbfbpmoaaDoor
open Go.RowKit

theorem Rds.grownN {α : Type} {size : Nat} {E : Enc α size} {w w' : World} {row : Option Nat} {N : Nat} {l : List α} (h : Rds w E (some ⟨N, 0, none⟩) l) (hg : w.grownBy w' row) (hne : some N ≠ row) : Rds w' E (some ⟨N, 0, none⟩) l := fun hn => by
  obtain ⟨b, off, e, hb, hc⟩ := h hn
  injection e with e
  injection e with e1 e2
  subst e1
  subst e2
  exact ⟨N, 0, rfl, Nat.lt_of_lt_of_le hb hg.size, fun j u hu => (World.cell?_of_block (w := w) (hg.block N hb hne)).trans (hc j u hu)⟩
theorem Own.setLow {α : Type} {size : Nat} {E : Enc α size} {w : World} {base : Nat} {e : TypeId} {v : Value} {l : List α} (h : Own w base e E v l) {g : Nat} (hg : g < base) (i : Nat) (u : Value) : Own (w.setCell ⟨g, i, none⟩ u) base e E v l :=
  h.grown (grownBy_setCell w g i u) (.inr fun e => by have := (h.block_lt g e).1; omega)
theorem CQ.alloc {room : S3} {p : Pd} {w W : World} (h : CQ room p w W) (o : Obj) : CQ room p w (W.alloc o) := ⟨h.rm.alloc o, h.pb.alloc o, h.bel.alloc h.bel.size o⟩
theorem CQ.drew {room : S3} {p : Pd} {w W : World} (h : CQ room p w W) : CQ room p w W.drew := ⟨h.rm.drew, h.pb.drew, h.bel.drew⟩
theorem CQ.crit {room : S3} {p : Pd} {w W : World} (h : CQ room p w W) (b : Bool) : CQ room { p with crit := b } w (W.setCell ⟨w.heap.size + 1, 2, none⟩ (.bool b)) :=
  ⟨h.rm.far (by show w.heap.size ≠ w.heap.size + 1; omega) _, h.pb.set_ 2 _, h.bel.setCell (by show w.heap.size ≤ w.heap.size + 1; omega) _⟩
theorem CQ.prio {room : S3} {p : Pd} {w W : World} (h : CQ room p w W) (k : Int) : CQ room { p with prio := k } w (W.setCell ⟨w.heap.size + 1, 1, none⟩ (.int .i64 k)) :=
  ⟨h.rm.far (by show w.heap.size ≠ w.heap.size + 1; omega) _, h.pb.set_ 1 _, h.bel.setCell (by show w.heap.size ≤ w.heap.size + 1; omega) _⟩
theorem CQ.critEx {room : S3} {p : Pd} {w W : World} (h : CQ room p w W) (b : Bool) {base : Nat} {v : Value} {L : List Pd} (ho : Own W base 44 encP v L) (hl : w.heap.size + 1 < base) :
    ∃ v1, W.setCell ⟨w.heap.size + 1, 2, none⟩ (.bool b) = v1 ∧ CQ room { p with crit := b } w v1 ∧ Own v1 base 44 encP v L := ⟨_, rfl, h.crit b, ho.setLow hl 2 _⟩
theorem CQ.prioEx {room : S3} {p : Pd} {w W : World} (h : CQ room p w W) (k : Int) {base : Nat} {v : Value} {L : List Pd} (ho : Own W base 44 encP v L) (hl : w.heap.size + 1 < base) :
    ∃ v1, W.setCell ⟨w.heap.size + 1, 1, none⟩ (.int .i64 k) = v1 ∧ CQ room { p with prio := k } w v1 ∧ Own v1 base 44 encP v L := ⟨_, rfl, h.prio k, ho.setLow hl 1 _⟩
end Go.Proofs.YtakgblgbfbpmoaaDoor

namespace Go.Proofs.YtakgblgbfbpmoaaDoor
open Go.RowKit

structure En where
  pod : Pd
  phase : Int
abbrev En.cells (e : En) : Array Value := #[.string e.pod.id, .int .i64 e.pod.prio, .bool e.pod.crit, .int .i64 e.pod.q0, .int .i64 e.pod.q1, .int .i64 e.pod.q2, .int .i64 e.pod.l0, .int .i64 e.pod.l1, .int .i64 e.pod.l2, .string e.pod.image, .int .i64 e.pod.size, .int .i64 e.phase]
def encN : Enc En 12 := ⟨fun p => p.cells.toList, fun _ => rfl, fun p u hu => by simp at hu; rcases hu with h | h | h | h | h | h | h | h | h | h | h | h <;> subst h <;> rfl, by decide⟩
theorem Rds.en {w : World} {A : Option Addr} {l : List En} (h : Rds w encN A l) {i : Nat} (hi : i < l.length) : ∃ b off, A = some ⟨b, off, none⟩ ∧ b < w.heap.size ∧
    w.cell? ⟨b, off + i * 12, none⟩ = some (.string l[i].pod.id) ∧ w.cell? ⟨b, off + i * 12 + 1, none⟩ = some (.int .i64 l[i].pod.prio) ∧ w.cell? ⟨b, off + i * 12 + 2, none⟩ = some (.bool l[i].pod.crit) ∧
    w.cell? ⟨b, off + i * 12 + 3, none⟩ = some (.int .i64 l[i].pod.q0) ∧ w.cell? ⟨b, off + i * 12 + 4, none⟩ = some (.int .i64 l[i].pod.q1) ∧ w.cell? ⟨b, off + i * 12 + 5, none⟩ = some (.int .i64 l[i].pod.q2) ∧
    w.cell? ⟨b, off + i * 12 + 6, none⟩ = some (.int .i64 l[i].pod.l0) ∧ w.cell? ⟨b, off + i * 12 + 7, none⟩ = some (.int .i64 l[i].pod.l1) ∧ w.cell? ⟨b, off + i * 12 + 8, none⟩ = some (.int .i64 l[i].pod.l2) ∧
    w.cell? ⟨b, off + i * 12 + 9, none⟩ = some (.string l[i].pod.image) ∧ w.cell? ⟨b, off + i * 12 + 10, none⟩ = some (.int .i64 l[i].pod.size) ∧ w.cell? ⟨b, off + i * 12 + 11, none⟩ = some (.int .i64 l[i].phase) := by
  obtain ⟨b, off, e, hb, hc⟩ := h.at_ hi
  exact ⟨b, off, e, hb, by have := hc 0 (.string l[i].pod.id) rfl; simpa using this, hc 1 (.int .i64 l[i].pod.prio) rfl, hc 2 (.bool l[i].pod.crit) rfl, hc 3 (.int .i64 l[i].pod.q0) rfl, hc 4 (.int .i64 l[i].pod.q1) rfl, hc 5 (.int .i64 l[i].pod.q2) rfl, hc 6 (.int .i64 l[i].pod.l0) rfl, hc 7 (.int .i64 l[i].pod.l1) rfl, hc 8 (.int .i64 l[i].pod.l2) rfl, hc 9 (.string l[i].pod.image) rfl, hc 10 (.int .i64 l[i].pod.size) rfl, hc 11 (.int .i64 l[i].phase) rfl⟩
theorem Rds.enAt {w W : World} {b off : Nat} {l : List En} (h : Rds w encN (some ⟨b, off, none⟩) l) (hb : Below w.heap.size w W) {i : Nat} {x : En} (hx : l[i]? = some x) : W.cell? ⟨b, off + i * 12, none⟩ = some (.string x.pod.id) ∧ W.cell? ⟨b, off + i * 12 + 1, none⟩ = some (.int .i64 x.pod.prio) ∧ W.cell? ⟨b, off + i * 12 + 2, none⟩ = some (.bool x.pod.crit) ∧ W.cell? ⟨b, off + i * 12 + 3, none⟩ = some (.int .i64 x.pod.q0) ∧ W.cell? ⟨b, off + i * 12 + 4, none⟩ = some (.int .i64 x.pod.q1) ∧ W.cell? ⟨b, off + i * 12 + 5, none⟩ = some (.int .i64 x.pod.q2) ∧ W.cell? ⟨b, off + i * 12 + 6, none⟩ = some (.int .i64 x.pod.l0) ∧ W.cell? ⟨b, off + i * 12 + 7, none⟩ = some (.int .i64 x.pod.l1) ∧ W.cell? ⟨b, off + i * 12 + 8, none⟩ = some (.int .i64 x.pod.l2) ∧ W.cell? ⟨b, off + i * 12 + 9, none⟩ = some (.string x.pod.image) ∧ W.cell? ⟨b, off + i * 12 + 10, none⟩ = some (.int .i64 x.pod.size) ∧ W.cell? ⟨b, off + i * 12 + 11, none⟩ = some (.int .i64 x.phase) := by
  obtain ⟨hi, rfl⟩ := List.getElem?_eq_some_iff.1 hx
  obtain ⟨b', off', hA, _, hc⟩ := (h.below hb).en hi
  injection hA with hA
  injection hA with h1 h2
  subst h1 h2
  exact hc
theorem toList_ne {a b : ByteArray} (h : (a.toList == b.toList) = false) : a ≠ b := toList_neV h
theorem smallV_any {p : Pd} {v : Bool} (hv : p.small = v) (w : World) :
    Calls Tryd.prog 21 #[.agg p.cells] w fun e w' => e = .returned (.bool v) ∧ Below w.heap.size w w' := refSmallV hv w
theorem rightV_any {p : Pd} {v : Bool} (hv : p.right = v) (w : World) (hp : p.Wf) :
    Calls Tryd.prog 22 #[.agg p.cells] w fun e w' => e = .returned (.bool v) ∧ Below w.heap.size w w' := refRightV hv w hp
structure OkEn (l : List En) (i : Nat) (hi : i < l.length) : Prop where
  s : l[i].pod.small = true
  r : l[i].pod.right = true
  lo : 1 ≤ l[i].phase
  hi : l[i].phase ≤ 3
  d : ∀ j (hj : j < i), l[j].pod.id ≠ l[i].pod.id
def OkEnTo (l : List En) (k : Nat) : Prop := ∀ i (hi : i < l.length), i < k → OkEn l i hi
structure FitE (l : List En) : Prop where
  len : l.length ≤ 64
  ok : OkEnTo l l.length
theorem OkEnTo.snoc {l : List En} {k : Nat} (hk : k < l.length) (h : OkEnTo l k) (a : OkEn l k hk) : OkEnTo l (k + 1) := fun i hi h2 => by
  rcases Nat.lt_or_ge i k with h3 | h3
  · exact h i hi h3
  · obtain rfl : i = k := by omega
    exact a
theorem FitE.no {l : List En} {v : Bool} (hv : v = true ↔ FitE l) (h : ¬ FitE l) : v = false := by
  cases v
  · rfl
  · exact absurd (hv.1 rfl) h
theorem Rds.enB {w W : World} {b off : Nat} {l : List En} (h : Rds w encN (some ⟨b, off, none⟩) l) (hb : Below w.heap.size w W) {i : Nat} (hi : i < l.length) : W.cell? ⟨b, off + i * 12, none⟩ = some (.string l[i].pod.id) :=
  (h.enAt hb (List.getElem?_eq_getElem hi)).1
def NotIn (l : List En) (s : ByteArray) (k : Nat) : Prop := ∀ j (hj : j < l.length), j < k → l[j].pod.id ≠ s
theorem NotIn.snoc {l : List En} {s : ByteArray} {k : Nat} (hk : k < l.length) (h : NotIn l s k) (he : (l[k].pod.id.toList == s.toList) = false) : NotIn l s (k + 1) := fun j hj h2 => by
  rcases Nat.lt_or_ge j k with h3 | h3
  · exact h j hj h3
  · obtain rfl : j = k := by omega
    exact toList_ne he
end Go.Proofs.YtakgblgbfbpmoaaDoor

namespace Go.Proofs.YtakgblgbfbpmoaaDoor
open Go.RowKit
theorem eq3_d (d : Nat) (a b c x y z : Int) (w : World) : (Op.equalIn (d + 2) 42 (.agg #[.int .i64 a, .int .i64 b, .int .i64 c]) (.agg #[.int .i64 x, .int .i64 y, .int .i64 z])).run Tryd.prog w = .ok ((a == x) && ((b == y) && (c == z))) w := by
  have hu := run_underlying (P := Tryd.prog) Tryd.underlying42 w
  have h3 := run_underlying (P := Tryd.prog) Tryd.underlying3 w
  have hs : (sizeOf 3).run Tryd.prog w = .ok 1 w := by kernel_rfl
  have key : ∀ p q : Int, (Op.equalIn (d + 1) 3 (.int .i64 p) (.int .i64 q)).run Tryd.prog w = .ok (p == q) w := fun p q => run_equalIn_int w d _ _ _ p q Tryd.underlying3
  unfold Op.equalIn
  simp only [Sem.run_bind, hu, Result.andThen_ok, hs]
  have p0 : ∀ (u v t : Value), (part 3 #[u, v, t] 0).run Tryd.prog w = .ok u w := fun u v t => by kernel_rfl
  have p1 : ∀ (u v t : Value), (part 3 #[u, v, t] 1).run Tryd.prog w = .ok v w := fun u v t => by kernel_rfl
  have p2 : ∀ (u v t : Value), (part 3 #[u, v, t] 2).run Tryd.prog w = .ok t w := fun u v t => by kernel_rfl
  rw [Std.Legacy.Range.forIn_eq_forIn_range']
  simp only [show Std.Legacy.Range.size [:3] = 3 from rfl, List.range', List.forIn_cons, Sem.run_bind, Nat.zero_add, Nat.mul_one, p0, Result.andThen_ok, key]
  cases h1 : (a == x)
  · simp [Sem.run_pure]
  · cases h2 : (b == y)
    · simp [Sem.run_pure, Sem.run_bind, p1, key, h2]
    · cases h3 : (c == z) <;> simp [Sem.run_pure, Sem.run_bind, p1, p2, key, h2, h3]
theorem eq3 (a b c x y z : Int) (w : World) : (Op.equalIn 9999 42 (.agg #[.int .i64 a, .int .i64 b, .int .i64 c]) (.agg #[.int .i64 x, .int .i64 y, .int .i64 z])).run Tryd.prog w = .ok ((a == x) && ((b == y) && (c == z))) w := eq3_d 9997 a b c x y z w
theorem eq3_top (a b c x y z : Int) (w : World) : (Op.equalIn 10000 42 (.agg #[.int .i64 a, .int .i64 b, .int .i64 c]) (.agg #[.int .i64 x, .int .i64 y, .int .i64 z])).run Tryd.prog w = .ok ((a == x) && ((b == y) && (c == z))) w := eq3_d 9998 a b c x y z w
theorem eq3_self (d : Nat) (a b c : Int) (w : World) : (Op.equalIn (d + 2) 42 (.agg #[.int .i64 a, .int .i64 b, .int .i64 c]) (.agg #[.int .i64 a, .int .i64 b, .int .i64 c])).run Tryd.prog w = .ok true w := by rw [eq3_d]; simp
theorem neq3_self (a b c : Int) (w : World) : (binOp .neq 42 (.agg #[.int .i64 a, .int .i64 b, .int .i64 c]) (.agg #[.int .i64 a, .int .i64 b, .int .i64 c])).run Tryd.prog w = .ok (.bool false) w := by
  rw [run_neq_struct, eq3_self 9998]; rfl
theorem fieldsP : Tryd.prog.underlying 44 = some (.struct (Tryd.prog.fieldsOf 44)) := by
  unfold Program.fieldsOf
  rw [Tryd.underlying44]
theorem eqPod_top (p : Pd) (w : World) : (Op.equalIn 10000 44 (.agg p.cells) (.agg p.cells)).run Tryd.prog w = .ok true w := by
  have r0 : (Op.equalIn 9999 9 (.string p.id) (.string p.id)).run Tryd.prog w = .ok true w := by rw [run_equalIn_string w 9998 _ _ _ Tryd.underlying9]; simp
  have r1 : (Op.equalIn 9999 3 (.int .i64 p.prio) (.int .i64 p.prio)).run Tryd.prog w = .ok true w := by rw [run_equalIn_int w 9998 _ _ _ _ _ Tryd.underlying3]; simp
  have r2 : (Op.equalIn 9999 4 (.bool p.crit) (.bool p.crit)).run Tryd.prog w = .ok true w := by rw [run_equalIn_bool' w 9998 _ _ _ Tryd.underlying4]; simp
  have r3 := eq3_self 9997 p.q0 p.q1 p.q2 w
  have r4 := eq3_self 9997 p.l0 p.l1 p.l2 w
  have r5 : (Op.equalIn 9999 9 (.string p.image) (.string p.image)).run Tryd.prog w = .ok true w := by rw [run_equalIn_string w 9998 _ _ _ Tryd.underlying9]; simp
  have r6 : (Op.equalIn 9999 3 (.int .i64 p.size) (.int .i64 p.size)).run Tryd.prog w = .ok true w := by rw [run_equalIn_int w 9998 _ _ _ _ _ Tryd.underlying3]; simp
  have t0 : ∀ (c0 c1 c2 c3 c4 c5 c6 c7 c8 c9 c10 : Value), (part 9 #[c0, c1, c2, c3, c4, c5, c6, c7, c8, c9, c10] 0).run Tryd.prog w = .ok (c0) w := fun c0 c1 c2 c3 c4 c5 c6 c7 c8 c9 c10 => by kernel_rfl
  have t1 : ∀ (c0 c1 c2 c3 c4 c5 c6 c7 c8 c9 c10 : Value), (part 3 #[c0, c1, c2, c3, c4, c5, c6, c7, c8, c9, c10] 1).run Tryd.prog w = .ok (c1) w := fun c0 c1 c2 c3 c4 c5 c6 c7 c8 c9 c10 => by kernel_rfl
  have t2 : ∀ (c0 c1 c2 c3 c4 c5 c6 c7 c8 c9 c10 : Value), (part 4 #[c0, c1, c2, c3, c4, c5, c6, c7, c8, c9, c10] 2).run Tryd.prog w = .ok (c2) w := fun c0 c1 c2 c3 c4 c5 c6 c7 c8 c9 c10 => by kernel_rfl
  have t3 : ∀ (c0 c1 c2 c3 c4 c5 c6 c7 c8 c9 c10 : Value), (part 42 #[c0, c1, c2, c3, c4, c5, c6, c7, c8, c9, c10] 3).run Tryd.prog w = .ok (.agg #[c3, c4, c5]) w := fun c0 c1 c2 c3 c4 c5 c6 c7 c8 c9 c10 => by kernel_rfl
  have t4 : ∀ (c0 c1 c2 c3 c4 c5 c6 c7 c8 c9 c10 : Value), (part 42 #[c0, c1, c2, c3, c4, c5, c6, c7, c8, c9, c10] 6).run Tryd.prog w = .ok (.agg #[c6, c7, c8]) w := fun c0 c1 c2 c3 c4 c5 c6 c7 c8 c9 c10 => by kernel_rfl
  have t5 : ∀ (c0 c1 c2 c3 c4 c5 c6 c7 c8 c9 c10 : Value), (part 9 #[c0, c1, c2, c3, c4, c5, c6, c7, c8, c9, c10] 9).run Tryd.prog w = .ok (c9) w := fun c0 c1 c2 c3 c4 c5 c6 c7 c8 c9 c10 => by kernel_rfl
  have t6 : ∀ (c0 c1 c2 c3 c4 c5 c6 c7 c8 c9 c10 : Value), (part 3 #[c0, c1, c2, c3, c4, c5, c6, c7, c8, c9, c10] 10).run Tryd.prog w = .ok (c10) w := fun c0 c1 c2 c3 c4 c5 c6 c7 c8 c9 c10 => by kernel_rfl
  rw [run_equalIn_agg w 9999 44 _ _ fieldsP (by kernel_rfl)]
  unfold Program.fieldsOf
  rw [Tryd.underlying44]
  simp [Op.eqFields, Sem.run_bind, Sem.run_pure, t0, r0, t1, r1, t2, r2, t3, r3, t4, r4, t5, r5, t6, r6]
theorem neqPod_self (p : Pd) (w : World) : (binOp .neq 44 (.agg #[.string p.id, .int .i64 p.prio, .bool p.crit, .int .i64 p.q0, .int .i64 p.q1, .int .i64 p.q2, .int .i64 p.l0, .int .i64 p.l1, .int .i64 p.l2, .string p.image, .int .i64 p.size]) (.agg #[.string p.id, .int .i64 p.prio, .bool p.crit, .int .i64 p.q0, .int .i64 p.q1, .int .i64 p.q2, .int .i64 p.l0, .int .i64 p.l1, .int .i64 p.l2, .string p.image, .int .i64 p.size])).run Tryd.prog w = .ok (.bool false) w := by
  rw [run_neq_struct]
  have h := eqPod_top p w
  unfold Pd.cells at h
  rw [h]
  rfl
end Go.Proofs.YtakgblgbfbpmoaaDoor

namespace Go.Proofs.YtakgblgbfbpmoaaDoor
open Go.RowKit

def Pd.none3 (p : Pd) : Bool := ((p.q0 == 0) && ((p.q1 == 0) && (p.q2 == 0))) && ((p.l0 == 0) && ((p.l1 == 0) && (p.l2 == 0)))
def GivesK (p : Pd) (w : World) (e : Ending) (w' : World) : Prop := ∃ k : Int, e = .returned (.int .i64 k) ∧ (k == 3) = p.none3 ∧ Below w.heap.size w w'
end Go.Proofs.YtakgblgbfbpmoaaDoor

namespace Go.Proofs.YtakgblgbfbpmoaaDoor
open Go.RowKit

def barD (a b c : Bool) (p : Pd) : Int × Bool := if p.crit = true then (0, false) else if (a && p.none3) = true then (0, true) else if b = true then (1, true) else if c = true then (2, true) else (0, false)
/-- none of the first k bars -/
def NotBar (a b c : Bool) (p : Pd) (k : Nat) : Prop := (0 < k → (a && p.none3) = false) ∧ (1 < k → b = false) ∧ (2 < k → c = false)
theorem idxb_0 (x0 x1 x2 : Value) (w : World) : (Instr.index 23 (.agg #[x0, x1, x2]) (.int .i64 0)).run Tryd.prog w = .ok x0 w := by kernel_rfl
theorem idxb_1 (x0 x1 x2 : Value) (w : World) : (Instr.index 23 (.agg #[x0, x1, x2]) (.int .i64 1)).run Tryd.prog w = .ok x1 w := by kernel_rfl
theorem idxb_2 (x0 x1 x2 : Value) (w : World) : (Instr.index 23 (.agg #[x0, x1, x2]) (.int .i64 2)).run Tryd.prog w = .ok x2 w := by kernel_rfl
attribute [go_sem] idxb_0 idxb_1 idxb_2
def GivesB (a b c : Bool) (p : Pd) (w : World) (e : Ending) (w' : World) : Prop := e = .returned (.tuple #[.int .i64 (barD a b c p).1, .bool (barD a b c p).2]) ∧ Below w.heap.size w w'
structure BQ (a b c : Bool) (p : Pd) (w W : World) : Prop where
  on : Blk W (w.heap.size) 23 #[.bool a, .bool b, .bool c]
  pb : Blk W (w.heap.size + 1) 44 #[.string p.id, .int .i64 p.prio, .bool p.crit, .int .i64 p.q0, .int .i64 p.q1, .int .i64 p.q2, .int .i64 p.l0, .int .i64 p.l1, .int .i64 p.l2, .string p.image, .int .i64 p.size]
  bel : Below w.heap.size w W
theorem BQ.below {a b c : Bool} {p : Pd} {w W W' : World} (h : BQ a b c p w W) (hb : Below W.heap.size W W') : BQ a b c p w W' := ⟨h.on.belowAll hb, h.pb.belowAll hb, h.bel.trans (hb.mono h.bel.size)⟩
theorem BQ.alloc {a b c : Bool} {p : Pd} {w W : World} (h : BQ a b c p w W) (o : Obj) : BQ a b c p w (W.alloc o) := ⟨h.on.alloc o, h.pb.alloc o, h.bel.alloc h.bel.size o⟩
theorem BQ.drew {a b c : Bool} {p : Pd} {w W : World} (h : BQ a b c p w W) : BQ a b c p w W.drew := ⟨h.on.drew, h.pb.drew, h.bel.drew⟩
theorem BQ.new (a b c : Bool) (p : Pd) (w : World) : BQ a b c p w ((w.alloc (.cells #[.bool a, .bool b, .bool c] 23)).alloc (.cells #[.string p.id, .int .i64 p.prio, .bool p.crit, .int .i64 p.q0, .int .i64 p.q1, .int .i64 p.q2, .int .i64 p.l0, .int .i64 p.l1, .int .i64 p.l2, .string p.image, .int .i64 p.size] 44)) := by
  have z1 : (w.alloc (.cells #[.bool a, .bool b, .bool c] 23)).heap.size = w.heap.size + 1 := by simp
  have b0 := Blk.new w 23 #[.bool a, .bool b, .bool c]
  have b1 := Blk.new (w.alloc (.cells #[.bool a, .bool b, .bool c] 23)) 44 #[.string p.id, .int .i64 p.prio, .bool p.crit, .int .i64 p.q0, .int .i64 p.q1, .int .i64 p.q2, .int .i64 p.l0, .int .i64 p.l1, .int .i64 p.l2, .string p.image, .int .i64 p.size]
  rw [z1] at b1
  have bel : Below w.heap.size w ((w.alloc (.cells #[.bool a, .bool b, .bool c] 23)).alloc (.cells #[.string p.id, .int .i64 p.prio, .bool p.crit, .int .i64 p.q0, .int .i64 p.q1, .int .i64 p.q2, .int .i64 p.l0, .int .i64 p.l1, .int .i64 p.l2, .string p.image, .int .i64 p.size] 44)) := ((Below.refl w.heap.size w).alloc (Nat.le_refl _) _).alloc (by rw [z1]; omega) _
  exact ⟨(b0.alloc _), b1, bel⟩

end Go.Proofs.YtakgblgbfbpmoaaDoor

namespace Go.Proofs.YtakgblgbfbpmoaaDoor
open Go.RowKit

def hasE (l : List En) (s : ByteArray) : Bool := l.any fun e => e.pod.id.toList == s.toList
theorem hasE_next (l : List En) (s : ByteArray) (k : Nat) (hk : k < l.length) : hasE (l.take (k + 1)) s = (hasE (l.take k) s || (l[k].pod.id.toList == s.toList)) := by
  unfold hasE
  rw [List.take_succ_eq_append_getElem hk, List.any_append]
  simp
theorem hasE_hit {l : List En} {s : ByteArray} {k : Nat} (hk : k < l.length) (h : (l[k].pod.id.toList == s.toList) = true) : hasE l s = true := List.any_eq_true.2 ⟨l[k], List.getElem_mem hk, h⟩
def GivesI (l : List En) (s : ByteArray) (w : World) (e : Ending) (w' : World) : Prop := ∃ z : Int, e = .returned (.int .i64 z) ∧ decide (0 ≤ z) = hasE l s ∧ Below w.heap.size w w'
end Go.Proofs.YtakgblgbfbpmoaaDoor

namespace Go.Proofs.YtakgblgbfbpmoaaDoor
open Go.RowKit

def signs : List UInt8 := [97, 98, 99, 100, 101, 102, 103, 104, 105, 106, 107, 108, 109, 110, 111, 112, 113, 114, 115, 116, 117, 118, 119, 120, 121, 122, 48, 49, 50, 51, 52, 53, 54, 55, 56, 57, 45]

theorem contains_signs (c : UInt8) : signs.contains c = sign c := by
  revert c
  have h : ∀ n, n < 256 → signs.contains (UInt8.ofNat n) = sign (UInt8.ofNat n) := by decide +kernel
  intro c
  have := h c.toNat (UInt8.toNat_lt c)
  simpa using this

theorem dropWhile_nil {p : UInt8 → Bool} (l : List UInt8) : l.dropWhile p = [] ↔ ∀ x ∈ l, p x = true := by
  induction l with
  | nil => simp
  | cons a l ih =>
    rw [List.dropWhile_cons]
    by_cases h : p a = true
    · rw [if_pos h, ih]; simp [h]
    · rw [if_neg h]; simp [h]

theorem trim_nil (l : List UInt8) : (Lib.trimS l signs = []) ↔ l.all sign = true := by
  have e : (fun x => signs.contains x) = sign := funext contains_signs
  unfold Lib.trimS Lib.trimLeftS Lib.trimRightS
  rw [e, dropWhile_nil, List.all_eq_true]
  constructor
  · intro h x hx
    by_cases hx2 : x ∈ (List.dropWhile sign l.reverse).reverse
    · exact h x hx2
    · have h2 : List.dropWhile sign l.reverse = [] := by
        rcases hd : List.dropWhile sign l.reverse with _ | ⟨a, t⟩
        · rfl
        · have ha := h a (by rw [hd]; simp)
          have := List.head_dropWhile_not (p := sign) (l := l.reverse) (by rw [hd]; simp)
          simp only [hd, List.head_cons] at this
          rw [ha] at this; cases this
      rw [dropWhile_nil] at h2
      exact h2 x (by simpa using hx)
  · intro h x hx
    refine h x ?_
    have : x ∈ l.reverse := (List.dropWhile_sublist _).subset (by simpa using hx)
    simpa using this

theorem trim_str (s : ByteArray) : ((⟨(Lib.trimS s.data.toList signs).toArray⟩ : ByteArray).toList.isEmpty) = s.data.toList.all sign := by
  rw [Bool.eq_iff_iff, ← trim_nil]
  simp [ByteArray.toList_eq]

set_option maxHeartbeats 1000000 in
theorem named_any (s : ByteArray) (w : World) (hs : s.size ≤ 9223372036854775807) :
    Calls Tryd.prog 59 #[.string s] w fun e w' => e = .returned (.bool (named s.data.toList)) ∧ Below w.heap.size w w' := by
  have hlen : s.data.toList.length = s.size := rfl
  have hcon := Any.strings_Trim_laid Tryd.lays160 (by kernel_rfl) s ⟨signs.toArray⟩ w hs (by decide) (ascii_of_all (by decide))
  change Calls Tryd.prog 64 _ _ (fun e w' => e = .returned (.string ⟨(Lib.trimS s.data.toList signs).toArray⟩) ∧ Below w.heap.size w w') at hcon
  have htr := trim_str s
  by_cases h1 : 1 ≤ s.size
  · by_cases h2 : s.size ≤ 24
    · have hn : named s.data.toList = s.data.toList.all sign := by unfold named; simp [hlen, h1, h2]
      rw [hn, ← htr]
      generalize (⟨(Lib.trimS s.data.toList signs).toArray⟩ : ByteArray) = r at hcon ⊢
      clear htr hn
      have H := Lib.hid hcon
      clear hcon
      go_enter Tryd.func59, Tryd.ntmps59
      go_wp2_with fail
      refine (H.out).mono ?_; rintro e w' ⟨rfl, hB⟩
      go_wp2
      go_ret
      exact ⟨rfl, hB⟩
    · have hn : named s.data.toList = false := by unfold named; simp [hlen, h2]
      rw [hn]
      clear htr hcon hn
      go_enter Tryd.func59, Tryd.ntmps59
      go_wp2
      go_ret
      exact ⟨rfl, Below.refl _ _⟩
  · have hn : named s.data.toList = false := by unfold named; simp [hlen, h1]
    rw [hn]
    clear htr hcon hn
    go_enter Tryd.func59, Tryd.ntmps59
    go_wp2
    go_ret
    exact ⟨rfl, Below.refl _ _⟩
end Go.Proofs.YtakgblgbfbpmoaaDoor
namespace Go.Proofs.YtakgblgbfbpmoaaDoor
open Go.RowKit Go.Shelf Go.Lib
set_option maxHeartbeats 2000000 in
theorem right_any (p : Pd) (w : World) (hp : p.Wf) :
    Calls Tryd.prog 47 #[.agg p.cells] w fun e w' => e = .returned (.bool p.right) ∧ Below w.heap.size w w' := by
  go_enter Tryd.func47, Tryd.ntmps47
  go_wp2
  go_loop [7] (fun t => ∃ k : Nat, k ≤ 3 ∧ t = .int .i64 k ∧ p.okTo k = true) (fun t => 3 - (intOf t).toNat)
  case atStart => exact ⟨0, by omega, rfl, p.okTo_zero⟩
  case round =>
    obtain ⟨k, hk, rfl, hok⟩ := hrel
    have HO := Lib.hid hok
    clear hok
    obtain rfl | rfl | rfl | rfl : k = 0 ∨ k = 1 ∨ k = 2 ∨ k = 3 := by omega
    · rcases bad_cases p.q0 p.l0 with ⟨hb, h | ⟨h1, h2⟩ | ⟨h1, h2, h3⟩⟩ | ⟨hb, h0, h | ⟨h1, h2⟩⟩
      iterate 3
        · have HB := Lib.hid (p.bad_zero hb)
          clear hb
          go_wp2
          go_ret
          exact ⟨ret_bool HB.out.symm, (Below.refl _ _).alloc (Nat.le_refl _) _⟩
      all_goals
        have HB := Lib.hid (p.okTo_one hb)
        clear hb
        go_wp2
        go_round
        case rel => exact ⟨1, by omega, rfl, HB.out⟩
        case measure => simp [intOf]
    · rcases bad_cases p.q1 p.l1 with ⟨hb, h | ⟨h1, h2⟩ | ⟨h1, h2, h3⟩⟩ | ⟨hb, h0, h | ⟨h1, h2⟩⟩
      iterate 3
        · have HB := Lib.hid (p.bad_one hb)
          clear hb
          go_wp2
          go_ret
          exact ⟨ret_bool HB.out.symm, (Below.refl _ _).alloc (Nat.le_refl _) _⟩
      all_goals
        have HB := Lib.hid (p.okTo_two HO.out hb)
        clear hb
        go_wp2
        go_round
        case rel => exact ⟨2, by omega, rfl, HB.out⟩
        case measure => simp [intOf]
    · rcases bad_cases p.q2 p.l2 with ⟨hb, h | ⟨h1, h2⟩ | ⟨h1, h2, h3⟩⟩ | ⟨hb, h0, h | ⟨h1, h2⟩⟩
      iterate 3
        · have HB := Lib.hid (p.bad_two hb)
          clear hb
          go_wp2
          go_ret
          exact ⟨ret_bool HB.out.symm, (Below.refl _ _).alloc (Nat.le_refl _) _⟩
      all_goals
        have HB := Lib.hid (p.okTo_three HO.out hb)
        clear hb
        go_wp2
        go_round
        case rel => exact ⟨3, by omega, rfl, HB.out⟩
        case measure => simp [intOf]
    · have HA := Lib.hid (p.ok_of_three HO.out)
      clear HO hk
      cases hn : named p.id.data.toList
      · have HR : Hid (p.right = false) := by show p.right = false; simp [Pd.right, hn]
        go_wp2_with (go_at_call 59; refine (named_any _ _ hp.id).mono ?_; rintro e w' ⟨rfl, hb⟩; obtain ⟨hc, hf⟩ := bcell hb)
        go_ret
        exact ⟨ret_bool HR.out.symm, ((Below.refl _ _).alloc (Nat.le_refl _) _).trans (hb.mono (by simp))⟩
      · cases hm : named p.image.data.toList
        · have HR : Hid (p.right = false) := by show p.right = false; simp [Pd.right, hm]
          have HN := Lib.hid hn
          have HM := Lib.hid hm
          clear hn hm
          go_wp2_with fail
          refine (named_any _ _ hp.id).mono ?_; rintro e w1 ⟨rfl, hb⟩; obtain ⟨hc, hf⟩ := bcell hb
          rw [HN.out]
          go_wp2_with fail
          refine (named_any _ _ hp.image).mono ?_; rintro e w2 ⟨rfl, hb2⟩
          rw [HM.out]
          obtain ⟨hc2, hf2⟩ := bcell hb2
          go_wp2_with fail
          go_ret
          exact ⟨ret_bool HR.out.symm, (((Below.refl _ _).alloc (Nat.le_refl _) _).trans (hb.mono (by simp))).trans (hb2.mono (by have := hb.size; simp at this; omega))⟩
        · have HR : Hid (p.right = p.rest) := by
            show p.right = p.rest
            simp [Pd.right, hn, hm, HA.out]
          have HN := Lib.hid hn
          have HM := Lib.hid hm
          clear hn hm
          rcases (show p.prio < -1073741824 ∨ 1073741824 < p.prio ∨ (-1073741824 ≤ p.prio ∧ p.prio ≤ 1073741824) by omega) with h | h | ⟨h1, h2⟩
          · have HX : Hid (p.rest = false) := by show p.rest = false; unfold Pd.rest; rw [decide_eq_false (by omega)]; rfl
            go_wp2_with fail
            refine (named_any _ _ hp.id).mono ?_; rintro e w1 ⟨rfl, hb⟩; obtain ⟨hc, hf⟩ := bcell hb
            rw [HN.out]
            go_wp2_with fail
            refine (named_any _ _ hp.image).mono ?_; rintro e w2 ⟨rfl, hb2⟩
            rw [HM.out]
            have hz : w.heap.size + 1 ≤ w1.heap.size := by have := hb.size; simpa using this
            have hz' : w.heap.size < w1.heap.size := hz
            obtain ⟨hc2, hf2⟩ := bcell hb2
            go_wp2_with fail
            go_ret
            exact ⟨ret_bool (HR.out.trans HX.out).symm, (((Below.refl _ _).alloc (Nat.le_refl _) _).trans (hb.mono (by simp))).trans (hb2.mono (by omega))⟩
          · have HX : Hid (p.rest = false) := by show p.rest = false; unfold Pd.rest; rw [decide_eq_false (by omega : ¬ p.prio ≤ 1073741824)]; simp
            go_wp2_with fail
            refine (named_any _ _ hp.id).mono ?_; rintro e w1 ⟨rfl, hb⟩; obtain ⟨hc, hf⟩ := bcell hb
            rw [HN.out]
            go_wp2_with fail
            refine (named_any _ _ hp.image).mono ?_; rintro e w2 ⟨rfl, hb2⟩
            rw [HM.out]
            have hz : w.heap.size + 1 ≤ w1.heap.size := by have := hb.size; simpa using this
            have hz' : w.heap.size < w1.heap.size := hz
            obtain ⟨hc2, hf2⟩ := bcell hb2
            go_wp2_with fail
            go_ret
            exact ⟨ret_bool (HR.out.trans HX.out).symm, (((Below.refl _ _).alloc (Nat.le_refl _) _).trans (hb.mono (by simp))).trans (hb2.mono (by omega))⟩
          · have HX : Hid (p.rest = decide (0 ≤ p.size)) := by show p.rest = _; unfold Pd.rest; rw [decide_eq_true h1, decide_eq_true h2]; rfl
            go_wp2_with fail
            refine (named_any _ _ hp.id).mono ?_; rintro e w1 ⟨rfl, hb⟩; obtain ⟨hc, hf⟩ := bcell hb
            rw [HN.out]
            go_wp2_with fail
            refine (named_any _ _ hp.image).mono ?_; rintro e w2 ⟨rfl, hb2⟩
            rw [HM.out]
            have hz : w.heap.size + 1 ≤ w1.heap.size := by have := hb.size; simpa using this
            have hz' : w.heap.size < w1.heap.size := hz
            obtain ⟨hc2, hf2⟩ := bcell hb2
            go_wp2_with fail
            go_ret
            exact ⟨ret_bool (HR.out.trans HX.out).symm, (((Below.refl _ _).alloc (Nat.le_refl _) _).trans (hb.mono (by simp))).trans (hb2.mono (by omega))⟩

end Go.Proofs.YtakgblgbfbpmoaaDoor

namespace Go.Proofs.YtakgblgbfbpmoaaDoor

theorem fit1_mono {r n m : Int} (h : n ≤ m) (hm : m ≤ most) (hf : fit1 r m = true) : fit1 r n = true := by
  unfold fit1 at *
  unfold most at *
  simp only [Bool.and_eq_true, Bool.not_eq_true', beq_eq_false_iff_ne, decide_eq_false_iff_not] at *
  omega
def S3.le (s t : S3) : Prop := s.a ≤ t.a ∧ s.b ≤ t.b ∧ s.c ≤ t.c
def S3.bd (s : S3) : Prop := s.a ≤ most ∧ s.b ≤ most ∧ s.c ≤ most
theorem satAdd_most (a b : Int) : satAdd a b ≤ most := by unfold satAdd; split <;> omega
theorem satAdd_ge (a b : Int) (h : a ≤ most) : a ≤ satAdd a b := by
  unfold satAdd nat0
  repeat' split
  all_goals omega
theorem S3.add_bd (s : S3) (p : Pd) : (s.add p).bd := ⟨satAdd_most _ _, satAdd_most _ _, satAdd_most _ _⟩
theorem S3.add_le {s : S3} (h : s.bd) (p : Pd) : s.le (s.add p) := ⟨satAdd_ge _ _ h.1, satAdd_ge _ _ h.2.1, satAdd_ge _ _ h.2.2⟩
theorem S3.le.trans {s t u : S3} (h1 : s.le t) (h2 : t.le u) : s.le u := ⟨Int.le_trans h1.1 h2.1, Int.le_trans h1.2.1 h2.2.1, Int.le_trans h1.2.2 h2.2.2⟩
theorem fold_le (l : List Pd) : ∀ s : S3, s.bd → s.le (l.foldl S3.add s) ∧ (l.foldl S3.add s).bd := by
  induction l with
  | nil => intro s h; exact ⟨⟨Int.le_refl _, Int.le_refl _, Int.le_refl _⟩, h⟩
  | cons p l ih =>
    intro s h
    obtain ⟨h1, h2⟩ := ih (s.add p) (s.add_bd p)
    exact ⟨(S3.add_le h p).trans h1, h2⟩
theorem sums_bd (l : List Pd) : (sumsOf l).bd := (fold_le l ⟨0, 0, 0⟩ ⟨by decide, by decide, by decide⟩).2
theorem fits_mono {room : S3} {s t : S3} (h : s.le t) (ht : t.bd) (hf : room.fits t = true) : room.fits s = true := by
  unfold S3.fits at *
  simp only [Bool.and_eq_true] at *
  exact ⟨fit1_mono h.1 ht.1 hf.1, fit1_mono h.2.1 ht.2.1 hf.2.1, fit1_mono h.2.2 ht.2.2 hf.2.2⟩
/-- of what fits, a part fits -/
theorem fitsB_left {room : S3} {l m : List Pd} (h : fitsB room (l ++ m) = true) : fitsB room l = true := by
  unfold fitsB at *
  have e : sumsOf (l ++ m) = m.foldl S3.add (sumsOf l) := by unfold sumsOf; rw [List.foldl_append]
  rw [e] at h
  exact fits_mono (fold_le m _ (sums_bd l)).1 (fold_le m _ (sums_bd l)).2 h
theorem fitsB_perm {room : S3} {l m : List Pd} (h : l.Perm m) : fitsB room l = fitsB room m := by unfold fitsB; rw [sumsOf_perm h]
theorem fitsB_sub {room : S3} {l m : List Pd} (h : l.Sublist m) (hf : fitsB room m = true) : fitsB room l = true := by
  obtain ⟨k, hk⟩ := h.exists_perm_append
  rw [fitsB_perm hk] at hf
  exact fitsB_left hf
/-- nobody goes just if all fit -/
theorem chooseD_none (room : S3) (ks : List Pd) : ∀ st : List Pd, fitsB room st = true → ((chooseD room st ks).2 = [] ↔ fitsB room (st ++ ks) = true) := by
  induction ks with
  | nil => intro st h; simp [chooseD, h]
  | cons v ks ih =>
    intro st h
    unfold chooseD
    split
    · rename_i hv
      rw [ih _ hv, List.append_assoc]
      rfl
    · rename_i hv
      constructor
      · intro h2; simp at h2
      · intro h2
        refine absurd ?_ hv
        have e : st ++ v :: ks = (st ++ [v]) ++ ks := by simp
        rw [e] at h2
        exact fitsB_left h2
/-- who stays and who goes are those that were asked -/
theorem chooseD_ids (room : S3) (ks : List Pd) : ∀ st : List Pd, ∃ gone : List Pd, (chooseD room st ks).2 = gone.map Pd.id ∧ ((chooseD room st ks).1 ++ gone).Perm (st ++ ks) ∧ gone.Sublist ks ∧ (fitsB room st = true → fitsB room (chooseD room st ks).1 = true) := by
  induction ks with
  | nil => intro st; exact ⟨[], rfl, by simp [chooseD], List.Sublist.refl _, fun h => h⟩
  | cons v ks ih =>
    intro st
    unfold chooseD
    split
    · rename_i hv
      obtain ⟨g, h1, h2, h3, h4⟩ := ih (st ++ [v])
      exact ⟨g, h1, by simpa using h2, h3.cons v, fun _ => h4 hv⟩
    · obtain ⟨g, h1, h2, h3, h4⟩ := ih st
      refine ⟨v :: g, by simp [h1], ?_, h3.cons_cons v, h4⟩
      refine List.perm_middle.trans ((h2.cons v).trans List.perm_middle.symm)
theorem chooseD_perm {room : S3} {st st' : List Pd} (h : st.Perm st') (ks : List Pd) : (chooseD room st ks).2 = (chooseD room st' ks).2 := by
  induction ks generalizing st st' with
  | nil => rfl
  | cons v ks ih =>
    unfold chooseD
    rw [fitsB_perm (h.append_right [v])]
    split
    · exact ih (h.append_right [v])
    · rw [ih h]
/-- those that may not go, and those that may, are all -/
theorem stay_ask (p : Pd) (l : List Pd) : (stayD p l ++ askD p l).Perm (l ++ [p]) := by
  unfold stayD askD
  have h : (l.filter (fun v => !mayV p v) ++ l.filter (mayV p)).Perm l := (List.perm_append_comm).trans (List.filter_append_perm (mayV p) l)
  rw [List.cons_append]
  exact (h.cons p).trans (List.perm_append_comm (l₁ := [p]) (l₂ := l))
end Go.Proofs.YtakgblgbfbpmoaaDoor

namespace Go.Proofs.YtakgblgbfbpmoaaDoor
open Go.RowKit

theorem sortT_eq : ∀ {L1 L2 : List ByteArray}, L1.Perm L2 → (L1.Pairwise fun x y => blt y x = false) → (L2.Pairwise fun x y => blt y x = false) → L1 = L2
  | [], L2, hp, _, _ => by rw [List.nil_perm.1 hp]
  | x :: L1, [], hp, _, _ => by simp at hp
  | x :: L1, y :: L2, hp, h1, h2 => by
    have hx : x ∈ y :: L2 := hp.subset (by simp)
    have hy : y ∈ x :: L1 := hp.symm.subset (by simp)
    have e : x = y := by
      rcases List.mem_cons.1 hx with h | h
      · exact h
      · rcases List.mem_cons.1 hy with h' | h'
        · exact h'.symm
        · exact blt_total ((List.pairwise_cons.1 h2).1 x h) ((List.pairwise_cons.1 h1).1 y h')
    subst e
    rw [sortT_eq ((List.perm_cons x).1 hp) (List.pairwise_cons.1 h1).2 (List.pairwise_cons.1 h2).2]
theorem FitV.inj {room : S3} {l : List Pd} {p : Pd} (h : FitV room l p) : ∀ x ∈ l, ∀ y ∈ l, x.id = y.id → x = y := fun x hx y hy e => by
  obtain ⟨i, hi, rfl⟩ := List.getElem_of_mem hx
  obtain ⟨j, hj, rfl⟩ := List.getElem_of_mem hy
  rcases Nat.lt_trichotomy i j with h1 | h1 | h1
  · exact absurd e ((h.ok j hj hj).d i h1)
  · subst h1; rfl
  · exact absurd e.symm ((h.ok i hi hi).d j h1)
theorem stayD_perm {p : Pd} {l m : List Pd} (h : l.Perm m) : (stayD p l).Perm (stayD p m) := (h.filter _).cons p
theorem askD_perm {p : Pd} {l m : List Pd} (h : l.Perm m) : (askD p l).Perm (askD p m) := h.filter _
/-- what is asked of one list is asked of the other alike -/
theorem asked_eq {p : Pd} {l m K K' : List Pd} (hi : ∀ x ∈ l, ∀ y ∈ l, x.id = y.id → x = y) (h : l.Perm m) (hk : K.Perm (askD p l)) (hs : K.Pairwise fun x y => vlt y x = false) (hk' : K'.Perm (askD p m)) (hs' : K'.Pairwise fun x y => vlt y x = false) : K' = K :=
  sortV_eq (hk'.trans ((askD_perm h).symm.trans hk.symm)) (fun x hx y hy => hi x (List.mem_filter.1 (hk.subset hx)).1 y (List.mem_filter.1 (hk.subset hy)).1) hs' hs
theorem gone_eq {room : S3} {p : Pd} {l m K K' : List Pd} {O O' : List ByteArray} (hi : ∀ x ∈ l, ∀ y ∈ l, x.id = y.id → x = y) (h : l.Perm m) (hk : K.Perm (askD p l)) (hs : K.Pairwise fun x y => vlt y x = false) (hk' : K'.Perm (askD p m)) (hs' : K'.Pairwise fun x y => vlt y x = false)
    (ho : O.Perm (chooseD room (stayD p l) K).2) (hos : O.Pairwise fun x y => blt y x = false) (ho' : O'.Perm (chooseD room (stayD p m) K').2) (hos' : O'.Pairwise fun x y => blt y x = false) : O' = O := by
  obtain rfl := asked_eq hi h hk hs hk' hs'
  rw [← chooseD_perm (stayD_perm h)] at ho'
  exact sortT_eq (ho'.trans ho.symm) hos' hos
end Go.Proofs.YtakgblgbfbpmoaaDoor

namespace Go.Proofs.YtakgblgbfbpmoaaDoor
open Go.RowKit

def hasD (l : List ByteArray) (s : ByteArray) : Bool := l.any fun x => x.toList == s.toList
theorem hasD_snoc (l : List ByteArray) (s : ByteArray) (i : Nat) (hi : i < l.length) (h : hasD (l.take i) s = false) (h2 : (l[i].toList == s.toList) = false) : hasD (l.take (i + 1)) s = false := by
  unfold hasD at *
  rw [List.take_succ_eq_append_getElem hi, List.any_append, h]
  simp only [List.any_cons, List.any_nil, Bool.or_false, Bool.false_or]
  exact h2
theorem hasD_hit (l : List ByteArray) (s : ByteArray) (i : Nat) (hi : i < l.length) (h2 : (l[i].toList == s.toList) = true) : hasD l s = true := List.any_eq_true.2 ⟨l[i], List.getElem_mem hi, h2⟩
end Go.Proofs.YtakgblgbfbpmoaaDoor
