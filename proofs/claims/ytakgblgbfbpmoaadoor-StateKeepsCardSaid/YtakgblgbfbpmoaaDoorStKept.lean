/- What stays while a state that was handed out, and bytes, are turned. -/
import Derived.Test.YtakgblgbfbpmoaaDoorMT
import Derived.Test.YtakgblgbfbpmoaaDoorMI
namespace Go.Proofs.YtakgblgbfbpmoaaDoor
open Go.RowKit

structure KpQ (rd : Int) (A : Option Addr) (n c : Nat) (o0 o1 o2 : Bool) (e : En) (w W : World) : Prop where
  sb : Blk W (w.heap.size) 25 #[.int .i64 rd, .slice A n c, .bool o0, .bool o1, .bool o2]
  eb : Blk W (w.heap.size + 1) 46 #[.string e.pod.id, .int .i64 e.pod.prio, .bool e.pod.crit, .int .i64 e.pod.q0, .int .i64 e.pod.q1, .int .i64 e.pod.q2, .int .i64 e.pod.l0, .int .i64 e.pod.l1, .int .i64 e.pod.l2, .string e.pod.image, .int .i64 e.pod.size, .int .i64 e.phase]
  bel : Below w.heap.size w W
theorem KpQ.below {rd : Int} {A : Option Addr} {n c : Nat} {o0 o1 o2 : Bool} {e : En} {w W W' : World} (h : KpQ rd A n c o0 o1 o2 e w W) (hb : Below W.heap.size W W') : KpQ rd A n c o0 o1 o2 e w W' := ⟨h.sb.belowAll hb, h.eb.belowAll hb, h.bel.trans (hb.mono h.bel.size)⟩
theorem KpQ.alloc {rd : Int} {A : Option Addr} {n c : Nat} {o0 o1 o2 : Bool} {e : En} {w W : World} (h : KpQ rd A n c o0 o1 o2 e w W) (o : Obj) : KpQ rd A n c o0 o1 o2 e w (W.alloc o) := ⟨h.sb.alloc o, h.eb.alloc o, h.bel.alloc h.bel.size o⟩
theorem KpQ.drew {rd : Int} {A : Option Addr} {n c : Nat} {o0 o1 o2 : Bool} {e : En} {w W : World} (h : KpQ rd A n c o0 o1 o2 e w W) : KpQ rd A n c o0 o1 o2 e w W.drew := ⟨h.sb.drew, h.eb.drew, h.bel.drew⟩
theorem KpQ.new (rd : Int) (A : Option Addr) (n c : Nat) (o0 o1 o2 : Bool) (e : En) (w : World) : KpQ rd A n c o0 o1 o2 e w ((w.alloc (.cells #[.int .i64 rd, .slice A n c, .bool o0, .bool o1, .bool o2] 25)).alloc (.cells #[.string e.pod.id, .int .i64 e.pod.prio, .bool e.pod.crit, .int .i64 e.pod.q0, .int .i64 e.pod.q1, .int .i64 e.pod.q2, .int .i64 e.pod.l0, .int .i64 e.pod.l1, .int .i64 e.pod.l2, .string e.pod.image, .int .i64 e.pod.size, .int .i64 e.phase] 46)) := by
  have z1 : (w.alloc (.cells #[.int .i64 rd, .slice A n c, .bool o0, .bool o1, .bool o2] 25)).heap.size = w.heap.size + 1 := by simp
  have b0 := Blk.new w 25 #[.int .i64 rd, .slice A n c, .bool o0, .bool o1, .bool o2]
  have b1 := Blk.new (w.alloc (.cells #[.int .i64 rd, .slice A n c, .bool o0, .bool o1, .bool o2] 25)) 46 #[.string e.pod.id, .int .i64 e.pod.prio, .bool e.pod.crit, .int .i64 e.pod.q0, .int .i64 e.pod.q1, .int .i64 e.pod.q2, .int .i64 e.pod.l0, .int .i64 e.pod.l1, .int .i64 e.pod.l2, .string e.pod.image, .int .i64 e.pod.size, .int .i64 e.phase]
  rw [z1] at b1
  have bel : Below w.heap.size w ((w.alloc (.cells #[.int .i64 rd, .slice A n c, .bool o0, .bool o1, .bool o2] 25)).alloc (.cells #[.string e.pod.id, .int .i64 e.pod.prio, .bool e.pod.crit, .int .i64 e.pod.q0, .int .i64 e.pod.q1, .int .i64 e.pod.q2, .int .i64 e.pod.l0, .int .i64 e.pod.l1, .int .i64 e.pod.l2, .string e.pod.image, .int .i64 e.pod.size, .int .i64 e.phase] 46)) := ((Below.refl w.heap.size w).alloc (Nat.le_refl _) _).alloc (by rw [z1]; omega) _
  exact ⟨(b0.alloc _), b1, bel⟩

theorem szE : (Tryd.prog.info? 46).map (·.size) = some 12 := by kernel_rfl
abbrev zEn : En := ⟨⟨⟨#[]⟩, 0, false, 0, 0, 0, 0, 0, 0, ⟨#[]⟩, 0⟩, 0⟩
def zTo (l : List En) (i : Nat) : List En := List.replicate i zEn ++ l.drop i
theorem zTo_len (l : List En) (i : Nat) (h : i ≤ l.length) : (zTo l i).length = l.length := by unfold zTo; rw [List.length_append, List.length_replicate, List.length_drop]; omega
theorem zTo_set (l : List En) (i : Nat) (h : i < l.length) : (zTo l i).set i zEn = zTo l (i + 1) := by
  unfold zTo
  rw [List.set_append_right _ _ (by simp), List.length_replicate, Nat.sub_self, List.drop_eq_getElem_cons h, List.set_cons_zero, List.replicate_succ', List.append_assoc]; rfl
theorem zTo_zero (l : List En) : zTo l 0 = l := by unfold zTo; simp
/-- what was handed in, what was answered, and where it lies -/
structure KK (rd : Int) (A At Aa Ab Ag Ax : Option Addr) (c ct ca cb cg cx N Na Nb Nt z0 a0 b0 t0 x0 : Nat) (o0 o1 o2 : Bool) (e : En) (l LA LB Z : List En) (L X : List UInt8) (w W : World) : Prop where
  q : KpQ rd A l.length c o0 o1 o2 e w W
  n : Blk W N 25 #[.int .i64 rd, .slice At l.length ct, .bool o0, .bool o1, .bool o2]
  ba : Blk W Na 25 #[.int .i64 rd, .slice Aa LA.length ca, .bool o0, .bool o1, .bool o2]
  bb : Blk W Nb 25 #[.int .i64 rd, .slice Ab LB.length cb, .bool o0, .bool o1, .bool o2]
  bt : Blk W Nt 25 #[.int .i64 rd, .slice Ag l.length cg, .bool o0, .bool o1, .bool o2]
  z : Own W z0 46 encN (.slice At l.length ct) Z
  a : Own W a0 46 encN (.slice Aa LA.length ca) LA
  b : Own W b0 46 encN (.slice Ab LB.length cb) LB
  t : Own W t0 46 encN (.slice Ag l.length cg) l
  x : Own W x0 5 encB (.slice Ax L.length cx) X
  hz : w.heap.size + 1 < z0
  hx : w.heap.size ≤ x0
section
variable {rd : Int} {A At Aa Ab Ag Ax : Option Addr} {c ct ca cb cg cx N Na Nb Nt z0 a0 b0 t0 x0 : Nat} {o0 o1 o2 : Bool} {e : En} {l LA LB Z : List En} {L X : List UInt8} {w W W' : World}
theorem KK.setZ {g : Nat} {Z' : List En} (h : KK rd A (some ⟨g, 0, none⟩) Aa Ab Ag Ax c ct ca cb cg cx N Na Nb Nt z0 a0 b0 t0 x0 o0 o1 o2 e l LA LB Z L X w W) (hg : W.grownBy W' (some g)) (ho : Own W' z0 46 encN (.slice (some ⟨g, 0, none⟩) l.length ct) Z') (hga : g < a0) (hgb : g < b0) (hgt : g < t0) :
    KK rd A (some ⟨g, 0, none⟩) Aa Ab Ag Ax c ct ca cb cg cx N Na Nb Nt z0 a0 b0 t0 x0 o0 o1 o2 e l LA LB Z' L X w W' := by
  have hz := h.hz
  have hgz : z0 ≤ g := (h.z.block_lt g rfl).1
  refine ⟨⟨h.q.sb.grown hg (by intro e; injection e with e; omega), h.q.eb.grown hg (by intro e; injection e with e; omega), h.z.belowGrown h.q.bel hg (by omega) h.q.bel.size⟩, h.n.grown hg (h.z.ne_blk h.n (by decide)), h.ba.grown hg (h.z.ne_blk h.ba (by decide)), h.bb.grown hg (h.z.ne_blk h.bb (by decide)), h.bt.grown hg (h.z.ne_blk h.bt (by decide)), ho, h.a.setApart hg hga, h.b.setApart hg hgb, h.t.setApart hg hgt, h.x.grown hg (own_apartT h.x h.z (by decide)), h.hz, h.hx⟩
theorem KK.setX {g : Nat} {X' : List UInt8} (h : KK rd A At Aa Ab Ag (some ⟨g, 0, none⟩) c ct ca cb cg cx N Na Nb Nt z0 a0 b0 t0 x0 o0 o1 o2 e l LA LB Z L X w W) (hg : W.grownBy W' (some g)) (ho : Own W' x0 5 encB (.slice (some ⟨g, 0, none⟩) L.length cx) X') :
    KK rd A At Aa Ab Ag (some ⟨g, 0, none⟩) c ct ca cb cg cx N Na Nb Nt z0 a0 b0 t0 x0 o0 o1 o2 e l LA LB Z L X' w W' := by
  refine ⟨⟨h.q.sb.grown hg (h.x.ne_blk h.q.sb (by decide)), h.q.eb.grown hg (h.x.ne_blk h.q.eb (by decide)), h.x.belowGrown h.q.bel hg h.hx h.q.bel.size⟩, h.n.grown hg (h.x.ne_blk h.n (by decide)), h.ba.grown hg (h.x.ne_blk h.ba (by decide)), h.bb.grown hg (h.x.ne_blk h.bb (by decide)), h.bt.grown hg (h.x.ne_blk h.bt (by decide)), h.z.grown hg (own_apartT h.z h.x (by decide)), h.a.grown hg (own_apartT h.a h.x (by decide)), h.b.grown hg (own_apartT h.b h.x (by decide)), h.t.grown hg (own_apartT h.t h.x (by decide)), ho, h.hz, h.hx⟩
theorem KK.drewN (h : KK rd A At Aa Ab Ag Ax c ct ca cb cg cx N Na Nb Nt z0 a0 b0 t0 x0 o0 o1 o2 e l LA LB Z L X w W) (n : Nat) : KK rd A At Aa Ab Ag Ax c ct ca cb cg cx N Na Nb Nt z0 a0 b0 t0 x0 o0 o1 o2 e l LA LB Z L X w (W.drewN n) := by
  have hb : Below W.heap.size W (W.drewN n) := below_ofDrewN ⟨n, rfl⟩
  exact ⟨h.q.below hb, h.n.belowAll hb, h.ba.belowAll hb, h.bb.belowAll hb, h.bt.belowAll hb, h.z.below hb (Nat.le_refl _), h.a.below hb (Nat.le_refl _), h.b.below hb (Nat.le_refl _), h.t.below hb (Nat.le_refl _), h.x.below hb (Nat.le_refl _), h.hz, h.hx⟩
end
end Go.Proofs.YtakgblgbfbpmoaaDoor
