/- bilgeref17.Read: the worlds it goes through. -/
import Derived.Test.YtampjkgkiooibaaDoorRawPlain
import Derived.Test.YtampjkgkiooibaaDoorRight17
import Derived.Test.YtampjkgkiooibaaDoorWhole17
import Derived.Test.YtampjkgkiooibaaDoorPush
import Derived.Deep.RegionHeld3
import Derived.Deep.Cut
namespace Go.Proofs.YtampjkgkiooibaaDoor
open Go.RowKit

/-- a raw sample, and a sample's box for the result -/
structure DQ (r : Rw) (w W : World) : Prop where
  rq : RQ r w W
  res : Blk W (w.heap.size + 1) 32 #[.int .i64 0, .int .i64 0, .int .i64 0, .int .i64 0, .slice none 0 0]
theorem RQ.far {r : Rw} {w W : World} (h : RQ r w W) {a : Addr} (ha : w.heap.size < a.block) (u : Value) : RQ r w (W.setCell a u) := ⟨h.rds0, h.box.far (by omega) u, h.bel.setCell (by omega) u⟩
theorem RQ.drew {r : Rw} {w W : World} (h : RQ r w W) : RQ r w W.drew := ⟨h.rds0, h.box.drew, h.bel.drew⟩
theorem RQ.alloc {r : Rw} {w W : World} (h : RQ r w W) (o : Obj) : RQ r w (W.alloc o) := ⟨h.rds0, h.box.alloc o, h.bel.alloc h.bel.size o⟩
theorem DQ.lt {r : Rw} {w W : World} (h : DQ r w W) : w.heap.size + 1 < W.heap.size := h.res.lt
theorem DQ.bel {r : Rw} {w W : World} (h : DQ r w W) : Below w.heap.size w W := h.rq.bel
theorem DQ.far {r : Rw} {w W : World} (h : DQ r w W) {a : Addr} (ha : w.heap.size + 1 < a.block) (u : Value) : DQ r w (W.setCell a u) := ⟨h.rq.far (by omega) u, h.res.far (by omega) u⟩
theorem DQ.drew {r : Rw} {w W : World} (h : DQ r w W) : DQ r w W.drew := ⟨h.rq.drew, h.res.drew⟩
theorem DQ.alloc {r : Rw} {w W : World} (h : DQ r w W) (o : Obj) : DQ r w (W.alloc o) := ⟨h.rq.alloc o, h.res.alloc o⟩
theorem DQ.below {r : Rw} {w W W' : World} (h : DQ r w W) (hb : Below W.heap.size W W') : DQ r w W' := ⟨h.rq.below hb, h.res.belowAll hb⟩
theorem DQ.cells {r : Rw} {w W : World} (h : DQ r w W) : W.cell? ⟨w.heap.size, 0, none⟩ = some (.int .i64 r.time) ∧ W.cell? ⟨w.heap.size, 1, none⟩ = some (.float .f64 r.v0) ∧ W.cell? ⟨w.heap.size, 2, none⟩ = some (.float .f64 r.v1) ∧ W.cell? ⟨w.heap.size, 3, none⟩ = some (.float .f64 r.v2) :=
  ⟨h.rq.box.cell 0, h.rq.box.cell 1, h.rq.box.cell 2, h.rq.box.cell 3⟩
theorem DQ.new (r : Rw) (w : World) (hr : Rds w encG r.A r.uses) : DQ r w ((w.alloc (.cells r.cells 26)).alloc (.cells #[.int .i64 0, .int .i64 0, .int .i64 0, .int .i64 0, .slice none 0 0] 32)) := by
  have hz : (w.alloc (.cells r.cells 26)).heap.size = w.heap.size + 1 := by simp
  have hb := Blk.new (w.alloc (.cells r.cells 26)) 32 #[.int .i64 0, .int .i64 0, .int .i64 0, .int .i64 0, .slice none 0 0]
  rw [hz] at hb
  exact ⟨(RQ.new r w hr).alloc _, hb⟩
theorem wholeD {r : Rw} {w W : World} {f0 f1 f2 : Nat} {x y z : Int} (h0 : f0 < 18446744073709551616 ∧ f1 < 18446744073709551616 ∧ f2 < 18446744073709551616) (hx : readN f0 = x ∧ readN f1 = y ∧ readN f2 = z) (_ : DQ r w W) :
    Calls Tryd.prog 24 #[.agg #[.float .f64 f0, .float .f64 f1, .float .f64 f2]] W fun e w' => e = .returned (.agg #[.int .i64 x, .int .i64 y, .int .i64 z]) ∧ Below W.heap.size W w' := wholeV_any h0.1 h0.2.1 h0.2.2 hx.1 hx.2.1 hx.2.2 W
/-- and the sample in the making -/
structure LQ (r : Rw) (n B : Nat) (V0 V1 V2 : Int) (m : List Us) (A' : Option Addr) (c' : Nat) (w W : World) : Prop where
  d : DQ r w W
  smp : Blk W n 32 #[.int .i64 r.time, .int .i64 V0, .int .i64 V1, .int .i64 V2, .slice A' m.length c']
  own : Own W w.heap.size 51 encU (.slice A' m.length c') m
  ob : ∀ k, (Value.slice A' m.length c').ownBlock = some k → k < B
  nb : n < B
  hn : w.heap.size + 1 < n
  sz : B ≤ W.heap.size
section
variable {r : Rw} {n B : Nat} {V0 V1 V2 : Int} {m : List Us} {A' : Option Addr} {c' : Nat} {w W W' : World}
theorem LQ.drew (h : LQ r n B V0 V1 V2 m A' c' w W) : LQ r n B V0 V1 V2 m A' c' w W.drew := ⟨h.d.drew, h.smp.drew, h.own.drew, h.ob, h.nb, h.hn, h.sz⟩
theorem LQ.alloc (h : LQ r n B V0 V1 V2 m A' c' w W) (o : Obj) : LQ r n B V0 V1 V2 m A' c' w (W.alloc o) := ⟨h.d.alloc o, h.smp.alloc o, h.own.alloc o, h.ob, h.nb, h.hn, by have := h.sz; simp; omega⟩
theorem LQ.below (h : LQ r n B V0 V1 V2 m A' c' w W) (hb : Below W.heap.size W W') : LQ r n B V0 V1 V2 m A' c' w W' := ⟨h.d.below hb, h.smp.belowAll hb, h.own.below hb (Nat.le_refl _), h.ob, h.nb, h.hn, Nat.le_trans h.sz hb.size⟩
theorem LQ.far (h : LQ r n B V0 V1 V2 m A' c' w W) {g i : Nat} (ha : B ≤ g) (u : Value) : LQ r n B V0 V1 V2 m A' c' w (W.setCell ⟨g, i, none⟩ u) := by
  have h1 := h.hn
  have h2 := h.nb
  have h3 := h.ob
  refine ⟨h.d.far (by show _ < g; omega) u, h.smp.far (by show ¬ _ = g; omega) u, h.own.grown (grownBy_setCell W g i u) (.inr fun e => ?_), h.ob, h.nb, h.hn, by simpa [World.setCell] using h.sz⟩
  have := h3 g e
  omega
theorem LQ.lt (h : LQ r n B V0 V1 V2 m A' c' w W) : B ≤ W.heap.size := h.sz
theorem LQ.rds (h : LQ r n B V0 V1 V2 m A' c' w W) : Rds W encU A' m := h.own.toRds
end
theorem wholeL {r : Rw} {n B : Nat} {V0 V1 V2 : Int} {m : List Us} {A' : Option Addr} {c' : Nat} {w W : World} {f0 f1 f2 : Nat} {x y z : Int} (h0 : f0 < 18446744073709551616 ∧ f1 < 18446744073709551616 ∧ f2 < 18446744073709551616) (hx : readN f0 = x ∧ readN f1 = y ∧ readN f2 = z) (_ : LQ r n B V0 V1 V2 m A' c' w W) :
    Calls Tryd.prog 24 #[.agg #[.float .f64 f0, .float .f64 f1, .float .f64 f2]] W fun e w' => e = .returned (.agg #[.int .i64 x, .int .i64 y, .int .i64 z]) ∧ Below W.heap.size W w' := wholeV_any h0.1 h0.2.1 h0.2.2 hx.1 hx.2.1 hx.2.2 W
theorem LQ.cells {t : Int} {v0 v1 v2 c b off : Nat} {l : List Ug} {n B : Nat} {V0 V1 V2 : Int} {m : List Us} {A' : Option Addr} {c' : Nat} {w W : World} {g : Ug} {k : Nat} (h : LQ ⟨t, v0, v1, v2, some ⟨b, off, none⟩, l, c⟩ n B V0 V1 V2 m A' c' w W) (hg : ∃ hk : k < l.length, l[k] = g) :
    W.cell? ⟨w.heap.size, 4, none⟩ = some (.slice (some ⟨b, off, none⟩) l.length c) ∧ W.cell? ⟨b, off + k * 4, none⟩ = some (.string g.id) ∧ W.cell? ⟨b, off + k * 4 + 1, none⟩ = some (.float .f64 g.f0) ∧ W.cell? ⟨b, off + k * 4 + 2, none⟩ = some (.float .f64 g.f1) ∧ W.cell? ⟨b, off + k * 4 + 3, none⟩ = some (.float .f64 g.f2) := by
  obtain ⟨hk, rfl⟩ := hg
  exact ⟨h.d.rq.box.cell 4, h.d.rq.ugAt hk⟩
/-- the row in the making, above all that was there -/
structure IQ (W2 : World) (q : List Us) (A : Option Addr) (c : Nat) (W : World) : Prop where
  own : Own W W2.heap.size 51 encU (.slice A q.length c) q
  bel : Below W2.heap.size W2 W
theorem IQ.quiet {W2 W : World} {q : List Us} {A : Option Addr} {c : Nat} (h : IQ W2 q A c W) (n : Nat) : IQ W2 q A c (W.drewN n) := ⟨h.own.drewN n, h.bel.trans ⟨rfl, rfl, rfl, Nat.le_refl _, fun _ _ => rfl⟩⟩
theorem elemU : Elem Tryd.prog 30 51 4 40 := by
  obtain ⟨i, h1, h2, h3, h4⟩ := info_parts (show (Tryd.prog.info? 51).map (fun i => (i.zero, i.size, i.bytes)) = some (some (.agg #[.string ⟨#[]⟩, .int .i64 0, .int .i64 0, .int .i64 0]), 4, 40) by kernel_rfl)
  exact ⟨Tryd.underlying30, i, _, h1, h2, h3, h4, rfl⟩
theorem Rds.usAt {W : World} {b off : Nat} {l : List Us} (h : Rds W encU (some ⟨b, off, none⟩) l) {i : Nat} (hi : i < l.length) :
    W.cell? ⟨b, off + i * 4, none⟩ = some (.string l[i].id) ∧ W.cell? ⟨b, off + i * 4 + 1, none⟩ = some (.int .i64 l[i].a0) ∧ W.cell? ⟨b, off + i * 4 + 2, none⟩ = some (.int .i64 l[i].a1) ∧ W.cell? ⟨b, off + i * 4 + 3, none⟩ = some (.int .i64 l[i].a2) := by
  obtain ⟨b', off', hA, _, hc⟩ := h.us hi
  injection hA with hA
  injection hA with h1 h2
  subst h1 h2
  exact hc
/-- what the inner loop has done -/
def insSt (m : List Us) (u : Us) (q : List Us) (j : Nat) : Bool → Prop
  | true => insU m u = q ++ m.drop j
  | false => insU m u = q ++ insU (m.drop j) u
theorem insSt.start (m : List Us) (u : Us) : insSt m u [] 0 false := rfl
theorem insSt.yes {m : List Us} {u : Us} {q : List Us} {j : Nat} (hj : j < m.length) (h : insSt m u q j false) (hb : blt u.id m[j].id = true) : insSt m u (q ++ [u] ++ [m[j]]) (j + 1) true := by
  show _ = _
  rw [show insU m u = q ++ insU (m.drop j) u from h, List.drop_eq_getElem_cons hj, insU, if_pos hb]; simp
theorem insSt.no {m : List Us} {u : Us} {q : List Us} {j : Nat} (hj : j < m.length) (h : insSt m u q j false) (hb : blt u.id m[j].id = false) : insSt m u (q ++ [m[j]]) (j + 1) false := by
  show _ = _
  rw [show insU m u = q ++ insU (m.drop j) u from h, List.drop_eq_getElem_cons hj, insU, if_neg (by rw [hb]; simp)]; simp
theorem insSt.done {m : List Us} {u : Us} {q : List Us} {j : Nat} (hj : j < m.length) (h : insSt m u q j true) : insSt m u (q ++ [m[j]]) (j + 1) true := by
  show _ = _
  rw [show insU m u = q ++ m.drop j from h, List.drop_eq_getElem_cons hj]; simp
theorem insSt.endT {m : List Us} {u : Us} {q : List Us} (h : insSt m u q m.length true) : q = insU m u := by
  rw [show insU m u = q ++ m.drop m.length from h]; simp
theorem insSt.endF {m : List Us} {u : Us} {q : List Us} (h : insSt m u q m.length false) : q ++ [u] = insU m u := by
  rw [show insU m u = q ++ insU (m.drop m.length) u from h]; simp [insU]
theorem insSt.len {m : List Us} {u : Us} {q : List Us} {j : Nat} {d : Bool} (h : insSt m u q j d) : q.length ≤ m.length + 1 := by
  cases d
  · have := congrArg List.length (show insU m u = q ++ insU (m.drop j) u from h); rw [insU_len, List.length_append] at this; omega
  · have := congrArg List.length (show insU m u = q ++ m.drop j from h); rw [insU_len, List.length_append] at this; omega
/-- a > b, as the walk spells it -/
theorem gtS (a b : ByteArray) : (!Op.bytesLess a.toList b.toList && !a.toList == b.toList) = blt b a := by
  show (!blt a b && !a.toList == b.toList) = blt b a
  cases h : blt b a
  · cases h2 : blt a b
    · have e := blt_total h2 h
      subst e; simp
    · rfl
  · have h2 : blt a b = false := by
      cases h2 : blt a b
      · rfl
      · have := blt_trans h h2; rw [blt_irrefl] at this; cases this
    have h3 : (a.toList == b.toList) = false := by
      cases h3 : (a.toList == b.toList)
      · rfl
      · have e := toList_inj h3
        subst e; rw [blt_irrefl] at h; cases h
    rw [h2, h3]; rfl
end Go.Proofs.YtampjkgkiooibaaDoor
