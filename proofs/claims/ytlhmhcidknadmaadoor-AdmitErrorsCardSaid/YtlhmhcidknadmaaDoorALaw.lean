/- What the Admit laws share: their boxes; a right config and table, and a small pod. -/
import Derived.Test.YtlhmhcidknadmaaDoorAWithin
import Derived.Test.YtlhmhcidknadmaaDoorAAwake
import Derived.Test.YtlhmhcidknadmaaDoorVMinPlain
namespace Go.Proofs.YtlhmhcidknadmaaDoor
open Go.RowKit

structure LA (f : Cf) (a b c : Bool) (p : Pd) (w W : World) : Prop where
  cf : Blk W (w.heap.size) 25 #[.int .i64 f.cap.a, .int .i64 f.cap.b, .int .i64 f.cap.c, .int .i64 f.room.a, .int .i64 f.room.b, .int .i64 f.room.c, .slice f.A f.ts.length f.n, .int .i64 f.per, .int .i64 f.ret, .int .i64 f.age, .int .i64 f.dead]
  on : Blk W (w.heap.size + 1) 27 #[.bool a, .bool b, .bool c]
  pb : Blk W (w.heap.size + 1 + 1) 29 #[.string p.id, .int .i64 p.prio, .bool p.crit, .int .i64 p.q0, .int .i64 p.q1, .int .i64 p.q2, .int .i64 p.l0, .int .i64 p.l1, .int .i64 p.l2, .string p.image, .int .i64 p.size]
  bel : Below w.heap.size w W
theorem LA.below {f : Cf} {a b c : Bool} {p : Pd} {w W W' : World} (h : LA f a b c p w W) (hb : Below W.heap.size W W') : LA f a b c p w W' := ⟨h.cf.belowAll hb, h.on.belowAll hb, h.pb.belowAll hb, h.bel.trans (hb.mono h.bel.size)⟩
theorem LA.alloc {f : Cf} {a b c : Bool} {p : Pd} {w W : World} (h : LA f a b c p w W) (o : Obj) : LA f a b c p w (W.alloc o) := ⟨h.cf.alloc o, h.on.alloc o, h.pb.alloc o, h.bel.alloc h.bel.size o⟩
theorem LA.drew {f : Cf} {a b c : Bool} {p : Pd} {w W : World} (h : LA f a b c p w W) : LA f a b c p w W.drew := ⟨h.cf.drew, h.on.drew, h.pb.drew, h.bel.drew⟩
theorem LA.new (f : Cf) (a b c : Bool) (p : Pd) (w : World) : LA f a b c p w (((w.alloc (.cells #[.int .i64 f.cap.a, .int .i64 f.cap.b, .int .i64 f.cap.c, .int .i64 f.room.a, .int .i64 f.room.b, .int .i64 f.room.c, .slice f.A f.ts.length f.n, .int .i64 f.per, .int .i64 f.ret, .int .i64 f.age, .int .i64 f.dead] 25)).alloc (.cells #[.bool a, .bool b, .bool c] 27)).alloc (.cells #[.string p.id, .int .i64 p.prio, .bool p.crit, .int .i64 p.q0, .int .i64 p.q1, .int .i64 p.q2, .int .i64 p.l0, .int .i64 p.l1, .int .i64 p.l2, .string p.image, .int .i64 p.size] 29)) := by
  have z1 : (w.alloc (.cells #[.int .i64 f.cap.a, .int .i64 f.cap.b, .int .i64 f.cap.c, .int .i64 f.room.a, .int .i64 f.room.b, .int .i64 f.room.c, .slice f.A f.ts.length f.n, .int .i64 f.per, .int .i64 f.ret, .int .i64 f.age, .int .i64 f.dead] 25)).heap.size = w.heap.size + 1 := by simp
  have z2 : ((w.alloc (.cells #[.int .i64 f.cap.a, .int .i64 f.cap.b, .int .i64 f.cap.c, .int .i64 f.room.a, .int .i64 f.room.b, .int .i64 f.room.c, .slice f.A f.ts.length f.n, .int .i64 f.per, .int .i64 f.ret, .int .i64 f.age, .int .i64 f.dead] 25)).alloc (.cells #[.bool a, .bool b, .bool c] 27)).heap.size = w.heap.size + 1 + 1 := by simp
  have b0 := Blk.new w 25 #[.int .i64 f.cap.a, .int .i64 f.cap.b, .int .i64 f.cap.c, .int .i64 f.room.a, .int .i64 f.room.b, .int .i64 f.room.c, .slice f.A f.ts.length f.n, .int .i64 f.per, .int .i64 f.ret, .int .i64 f.age, .int .i64 f.dead]
  have b1 := Blk.new (w.alloc (.cells #[.int .i64 f.cap.a, .int .i64 f.cap.b, .int .i64 f.cap.c, .int .i64 f.room.a, .int .i64 f.room.b, .int .i64 f.room.c, .slice f.A f.ts.length f.n, .int .i64 f.per, .int .i64 f.ret, .int .i64 f.age, .int .i64 f.dead] 25)) 27 #[.bool a, .bool b, .bool c]
  rw [z1] at b1
  have b2 := Blk.new ((w.alloc (.cells #[.int .i64 f.cap.a, .int .i64 f.cap.b, .int .i64 f.cap.c, .int .i64 f.room.a, .int .i64 f.room.b, .int .i64 f.room.c, .slice f.A f.ts.length f.n, .int .i64 f.per, .int .i64 f.ret, .int .i64 f.age, .int .i64 f.dead] 25)).alloc (.cells #[.bool a, .bool b, .bool c] 27)) 29 #[.string p.id, .int .i64 p.prio, .bool p.crit, .int .i64 p.q0, .int .i64 p.q1, .int .i64 p.q2, .int .i64 p.l0, .int .i64 p.l1, .int .i64 p.l2, .string p.image, .int .i64 p.size]
  rw [z2] at b2
  have bel : Below w.heap.size w (((w.alloc (.cells #[.int .i64 f.cap.a, .int .i64 f.cap.b, .int .i64 f.cap.c, .int .i64 f.room.a, .int .i64 f.room.b, .int .i64 f.room.c, .slice f.A f.ts.length f.n, .int .i64 f.per, .int .i64 f.ret, .int .i64 f.age, .int .i64 f.dead] 25)).alloc (.cells #[.bool a, .bool b, .bool c] 27)).alloc (.cells #[.string p.id, .int .i64 p.prio, .bool p.crit, .int .i64 p.q0, .int .i64 p.q1, .int .i64 p.q2, .int .i64 p.l0, .int .i64 p.l1, .int .i64 p.l2, .string p.image, .int .i64 p.size] 29)) := (((Below.refl w.heap.size w).alloc (Nat.le_refl _) _).alloc (by rw [z1]; omega) _).alloc (by rw [z2]; omega) _
  exact ⟨((b0.alloc _).alloc _), (b1.alloc _), b2, bel⟩

theorem withinV {room : S3} {L : List Pd} {v : Bool} (hv : fitsB room L = v) {A : Option Addr} {c n : Nat} (hn : n = L.length) {w : World} (hr : Rds w encP A L) (hl : L.length ≤ 64) (hq : ∀ x ∈ L, x.Wf ∧ x.right = true) (ha : 0 ≤ room.a ∧ room.a ≤ 9223372036854775807) (hb : 0 ≤ room.b ∧ room.b ≤ 9223372036854775807) (hc : 0 ≤ room.c ∧ room.c ≤ 9223372036854775807) :
    Calls Tryd.prog 15 #[.agg #[.int .i64 room.a, .int .i64 room.b, .int .i64 room.c], .slice A n c] w fun e w' => e = .returned (.bool v) ∧ Below w.heap.size w w' := by
  subst hn; subst hv; exact within_any room L A c w hr hl hq ha hb hc
theorem hasE_no {l : List En} {s : ByteArray} (h : hasE l s = false) : ∀ x ∈ l, x.pod.id ≠ s := fun x hx e => by
  have : hasE l s = true := List.any_eq_true.2 ⟨x, hx, by rw [e]; simp⟩
  rw [h] at this; cases this
/-- a right table and pod, of which none has the other's Id, are what Choose asks -/
theorem fitV_of {f : Cf} {l : List En} {p : Pd} (hF : FitE l) (h0 : Room0 f) (hs : p.small = true) (hr : p.right = true) (hn : hasE l p.id = false) : FitV f.room (podsD l) p := by
  refine ⟨by rw [podsD_len]; exact hF.len, h0.1, h0.2.1, h0.2.2, hs, hr, fun i hi _ => ?_⟩
  have hi2 : i < l.length := by rw [podsD_len] at hi; exact hi
  have e : ∀ j (hj : j < (podsD l).length), (podsD l)[j] = (l[j]'(by rw [podsD_len] at hj; exact hj)).pod := fun j hj => by simp only [podsD, List.getElem_map]
  have ok := hF.ok i hi2 hi2
  refine ⟨by rw [e]; exact ok.s, by rw [e]; exact ok.r, by rw [e]; exact hasE_no hn _ (List.getElem_mem hi2), fun j hj => ?_⟩
  rw [e, e]
  exact ok.d j hj
theorem podsD_wf {l : List En} (hF : FitE l) (hw : ∀ x ∈ l, x.pod.Wf ∧ I64 x.phase) : ∀ x ∈ podsD l, x.Wf ∧ x.right = true := fun x hx => by
  obtain ⟨y, hy, e⟩ := List.mem_map.1 hx
  rw [← e]
  obtain ⟨i, hi, e2⟩ := List.getElem_of_mem hy
  exact ⟨(hw y hy).1, by rw [← e2]; exact (hF.ok i hi hi).r⟩
end Go.Proofs.YtlhmhcidknadmaaDoor
