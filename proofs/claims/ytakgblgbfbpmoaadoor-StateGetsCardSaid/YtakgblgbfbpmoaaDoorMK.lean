/- Several texts in one: state.at, state.Find, state.With, state.Without. Numbers as eight bytes: the reference's word. Bytes and texts: conversions; the reference's Same. pod.numbers: eight pointers into a pod's box. -/
import Derived.RegionTactic
import Derived.Laws.BytesArg
import Derived.Lib.ConvBytes
import Derived.Deep.RegionHeld3
import Derived.StillTailTactics
import Derived.Outline
import Derived.Test.YtakgblgbfbpmoaaDoorMH
import Derived.Test.YtakgblgbfbpmoaaDoorMI
import Derived.Test.YtakgblgbfbpmoaaDoorMJ
import Derived.Test.YtakgblgbfbpmoaaDoorMD
import Derived.Test.YtakgblgbfbpmoaaDoorMA
namespace Go.Proofs.YtakgblgbfbpmoaaDoor
open Go.RowKit

theorem infoS : (Tryd.prog.info? 25).map (·.size) = some 5 := by kernel_rfl
theorem infoE : (Tryd.prog.info? 46).map (·.size) = some 12 := by kernel_rfl
/-- a right table is sorted -/
theorem sorted_of_ok {l : List En} (h : OkSTo l l.length) : SortedN l := fun i j hij hj => by
  obtain ⟨d, rfl⟩ : ∃ d, j = i + 1 + d := ⟨j - (i + 1), by omega⟩
  induction d with
  | zero => exact (h (i + 1) hj (by omega)).s i rfl
  | succ d ih => exact blt_trans (ih (by omega) (by omega)) ((h (i + 1 + (d + 1)) hj (by omega)).s (i + 1 + d) (by omega))
theorem RightS.sorted {rd : Int} {l : List En} (h : RightS rd l) : SortedN l := sorted_of_ok h.ok
set_option maxRecDepth 100000 in
theorem at_any (rd : Int) (l : List En) (s : ByteArray) (A : Option Addr) (c : Nat) (o0 o1 o2 : Bool) (w : World) (hr : Rds w encN A l) (hm : l.length ≤ 1000000) (hs : SortedN l) :
    Calls Tryd.prog 40 #[.agg #[.int .i64 rd, .slice A l.length c, .bool o0, .bool o1, .bool o2], .string s] w fun e w' => e = .returned (.tuple #[.int .i64 (lowerI l s), .bool (isAt l s)]) ∧ Below w.heap.size w w' := by
  have HQ := Lib.hid (SQ.new rd A l c o0 o1 o2 w)
  have HR := Lib.hid hr
  have HS := Lib.hid hs
  clear hr hs
  go_enter Tryd.func40, Tryd.ntmps40
  have cs := HQ.out.sb.cell
  go_wp2_with fail
  refine (bsearch_any l s A c _ (HR.out.below HQ.out.bel) hm HS.out).mono ?_; rintro e w1 ⟨rfl, hb⟩
  have HQ := Lib.hid (HQ.out.below hb)
  clear hb cs
  go_wp2_with fail
  go_ret2
  exact ⟨rfl, HQ.out.bel⟩
def findS (l : List En) (s : ByteArray) : Int × Bool := if isAt l s = true then (lowerI l s, true) else (0, false)
set_option maxRecDepth 100000 in
theorem find_any {l : List En} {s : ByteArray} {i : Int} {v : Bool} (hv : findS l s = (i, v)) (rd : Int) (A : Option Addr) (c : Nat) (o0 o1 o2 : Bool) (w : World) (hr : Rds w encN A l) (hm : l.length ≤ 1000000) (hs : SortedN l) :
    Calls Tryd.prog 25 #[.agg #[.int .i64 rd, .slice A l.length c, .bool o0, .bool o1, .bool o2], .string s] w fun e w' => e = .returned (.tuple #[.int .i64 i, .bool v]) ∧ Below w.heap.size w w' := by
  have HQ := Lib.hid (SQ.new rd A l c o0 o1 o2 w)
  have HR := Lib.hid hr
  have HS := Lib.hid hs
  have HV := Lib.hid hv
  clear hr hs hv
  go_enter Tryd.func25, Tryd.ntmps25
  have cs := HQ.out.sb.cell
  go_wp2_with fail
  refine (at_any rd l s A c o0 o1 o2 _ (HR.out.below HQ.out.bel) hm HS.out).mono ?_; rintro e w1 ⟨rfl, hb⟩
  have HQ := Lib.hid (HQ.out.below hb)
  clear hb cs
  cases hat : isAt l s
  · have hq := HV.out
    unfold findS at hq
    rw [hat] at hq
    obtain ⟨rfl, rfl⟩ : (0 : Int) = i ∧ false = v := by simpa using hq
    clear hq hat HV
    go_wp2_with fail
    go_ret2
    exact ⟨rfl, HQ.out.bel⟩
  · have hq := HV.out
    unfold findS at hq
    rw [hat] at hq
    obtain ⟨rfl, rfl⟩ : (lowerI l s : Int) = i ∧ true = v := by simpa using hq
    clear hq hat HV
    go_wp2_with fail
    go_ret2
    exact ⟨rfl, HQ.out.bel⟩
theorem isAt_lt {l : List En} {s : ByteArray} (h : isAt l s = true) : ∃ hi : lowerI l s < l.length, l[lowerI l s].pod.id = s := by
  unfold isAt at h
  split at h
  · rename_i x hx
    obtain ⟨hi, e⟩ := List.getElem?_eq_some_iff.1 hx
    exact ⟨hi, by rw [e]; exact toList_inj h⟩
  · cases h
/-- what With, Without make of a table -/
def withD (l : List En) (e : En) : List En := if isAt l e.pod.id = true then l.set (lowerI l e.pod.id) e else insI l (lowerI l e.pod.id) e
def withoutS (l : List En) (s : ByteArray) : List En := if isAt l s = true then delI l (lowerI l s) else l
def GivesSt (rd : Int) (o0 o1 o2 : Bool) (L : List En) (w : World) (x : Ending) (w' : World) : Prop := ∃ (A : Option Addr) (c : Nat), x = .returned (.agg #[.int .i64 rd, .slice A L.length c, .bool o0, .bool o1, .bool o2]) ∧ Own w' w.heap.size 46 encN (.slice A L.length c) L ∧ Below w.heap.size w w'
structure WQ (rd : Int) (A : Option Addr) (n c : Nat) (o0 o1 o2 : Bool) (e : En) (w W : World) : Prop where
  sb : Blk W (w.heap.size) 25 #[.int .i64 rd, .slice A n c, .bool o0, .bool o1, .bool o2]
  eb : Blk W (w.heap.size + 1) 46 #[.string e.pod.id, .int .i64 e.pod.prio, .bool e.pod.crit, .int .i64 e.pod.q0, .int .i64 e.pod.q1, .int .i64 e.pod.q2, .int .i64 e.pod.l0, .int .i64 e.pod.l1, .int .i64 e.pod.l2, .string e.pod.image, .int .i64 e.pod.size, .int .i64 e.phase]
  rb : Blk W (w.heap.size + 1 + 1) 25 #[.int .i64 0, .slice none 0 0, .bool false, .bool false, .bool false]
  bel : Below w.heap.size w W
theorem WQ.below {rd : Int} {A : Option Addr} {n c : Nat} {o0 o1 o2 : Bool} {e : En} {w W W' : World} (h : WQ rd A n c o0 o1 o2 e w W) (hb : Below W.heap.size W W') : WQ rd A n c o0 o1 o2 e w W' := ⟨h.sb.belowAll hb, h.eb.belowAll hb, h.rb.belowAll hb, h.bel.trans (hb.mono h.bel.size)⟩
theorem WQ.alloc {rd : Int} {A : Option Addr} {n c : Nat} {o0 o1 o2 : Bool} {e : En} {w W : World} (h : WQ rd A n c o0 o1 o2 e w W) (o : Obj) : WQ rd A n c o0 o1 o2 e w (W.alloc o) := ⟨h.sb.alloc o, h.eb.alloc o, h.rb.alloc o, h.bel.alloc h.bel.size o⟩
theorem WQ.drew {rd : Int} {A : Option Addr} {n c : Nat} {o0 o1 o2 : Bool} {e : En} {w W : World} (h : WQ rd A n c o0 o1 o2 e w W) : WQ rd A n c o0 o1 o2 e w W.drew := ⟨h.sb.drew, h.eb.drew, h.rb.drew, h.bel.drew⟩
theorem WQ.new (rd : Int) (A : Option Addr) (n c : Nat) (o0 o1 o2 : Bool) (e : En) (w : World) : WQ rd A n c o0 o1 o2 e w (((w.alloc (.cells #[.int .i64 rd, .slice A n c, .bool o0, .bool o1, .bool o2] 25)).alloc (.cells #[.string e.pod.id, .int .i64 e.pod.prio, .bool e.pod.crit, .int .i64 e.pod.q0, .int .i64 e.pod.q1, .int .i64 e.pod.q2, .int .i64 e.pod.l0, .int .i64 e.pod.l1, .int .i64 e.pod.l2, .string e.pod.image, .int .i64 e.pod.size, .int .i64 e.phase] 46)).alloc (.cells #[.int .i64 0, .slice none 0 0, .bool false, .bool false, .bool false] 25)) := by
  have z1 : (w.alloc (.cells #[.int .i64 rd, .slice A n c, .bool o0, .bool o1, .bool o2] 25)).heap.size = w.heap.size + 1 := by simp
  have z2 : ((w.alloc (.cells #[.int .i64 rd, .slice A n c, .bool o0, .bool o1, .bool o2] 25)).alloc (.cells #[.string e.pod.id, .int .i64 e.pod.prio, .bool e.pod.crit, .int .i64 e.pod.q0, .int .i64 e.pod.q1, .int .i64 e.pod.q2, .int .i64 e.pod.l0, .int .i64 e.pod.l1, .int .i64 e.pod.l2, .string e.pod.image, .int .i64 e.pod.size, .int .i64 e.phase] 46)).heap.size = w.heap.size + 1 + 1 := by simp
  have b0 := Blk.new w 25 #[.int .i64 rd, .slice A n c, .bool o0, .bool o1, .bool o2]
  have b1 := Blk.new (w.alloc (.cells #[.int .i64 rd, .slice A n c, .bool o0, .bool o1, .bool o2] 25)) 46 #[.string e.pod.id, .int .i64 e.pod.prio, .bool e.pod.crit, .int .i64 e.pod.q0, .int .i64 e.pod.q1, .int .i64 e.pod.q2, .int .i64 e.pod.l0, .int .i64 e.pod.l1, .int .i64 e.pod.l2, .string e.pod.image, .int .i64 e.pod.size, .int .i64 e.phase]
  rw [z1] at b1
  have b2 := Blk.new ((w.alloc (.cells #[.int .i64 rd, .slice A n c, .bool o0, .bool o1, .bool o2] 25)).alloc (.cells #[.string e.pod.id, .int .i64 e.pod.prio, .bool e.pod.crit, .int .i64 e.pod.q0, .int .i64 e.pod.q1, .int .i64 e.pod.q2, .int .i64 e.pod.l0, .int .i64 e.pod.l1, .int .i64 e.pod.l2, .string e.pod.image, .int .i64 e.pod.size, .int .i64 e.phase] 46)) 25 #[.int .i64 0, .slice none 0 0, .bool false, .bool false, .bool false]
  rw [z2] at b2
  have bel : Below w.heap.size w (((w.alloc (.cells #[.int .i64 rd, .slice A n c, .bool o0, .bool o1, .bool o2] 25)).alloc (.cells #[.string e.pod.id, .int .i64 e.pod.prio, .bool e.pod.crit, .int .i64 e.pod.q0, .int .i64 e.pod.q1, .int .i64 e.pod.q2, .int .i64 e.pod.l0, .int .i64 e.pod.l1, .int .i64 e.pod.l2, .string e.pod.image, .int .i64 e.pod.size, .int .i64 e.phase] 46)).alloc (.cells #[.int .i64 0, .slice none 0 0, .bool false, .bool false, .bool false] 25)) := (((Below.refl w.heap.size w).alloc (Nat.le_refl _) _).alloc (by rw [z1]; omega) _).alloc (by rw [z2]; omega) _
  exact ⟨((b0.alloc _).alloc _), (b1.alloc _), b2, bel⟩
theorem WQ.pods {rd : Int} {A : Option Addr} {n c : Nat} {o0 o1 o2 : Bool} {e : En} {w W : World} (h : WQ rd A n c o0 o1 o2 e w W) (A2 : Option Addr) (n2 c2 : Nat) : WQ rd A2 n2 c2 o0 o1 o2 e w (W.setCell ⟨w.heap.size, 1, none⟩ (.slice A2 n2 c2)) :=
  ⟨h.sb.set_ 1 _, h.eb.far (by show w.heap.size + 1 ≠ w.heap.size; omega) _, h.rb.far (by show w.heap.size + 1 + 1 ≠ w.heap.size; omega) _, h.bel.setCell (Nat.le_refl _) _⟩
theorem WQ.grown {rd : Int} {A : Option Addr} {n c : Nat} {o0 o1 o2 : Bool} {e : En} {w W W' : World} (h : WQ rd A n c o0 o1 o2 e w W) {row : Option Nat} (hg : W.grownBy W' row) (hne : ∀ k, row = some k → w.heap.size + 1 + 1 < k) : WQ rd A n c o0 o1 o2 e w W' :=
  ⟨h.sb.grown hg (by intro e'; have := hne _ e'.symm; omega), h.eb.grown hg (by intro e'; have := hne _ e'.symm; omega), h.rb.grown hg (by intro e'; have := hne _ e'.symm; omega), h.bel.grown hg h.bel.size (by intro k hk; have := hne k hk; omega)⟩
theorem WQ.podsEx {rd : Int} {A : Option Addr} {n c : Nat} {o0 o1 o2 : Bool} {e : En} {w W : World} (h : WQ rd A n c o0 o1 o2 e w W) {A2 : Option Addr} {n2 c2 : Nat} {base : Nat} {v : Value} {L : List En} (ho : Own W base 46 encN v L) (hl : w.heap.size + 1 + 1 < base) :
    ∃ v1, W.setCell ⟨w.heap.size, 1, none⟩ (.slice A2 n2 c2) = v1 ∧ WQ rd A2 n2 c2 o0 o1 o2 e w v1 ∧ Own v1 base 46 encN v L ∧ v1.heap.size = W.heap.size := ⟨_, rfl, h.pods A2 n2 c2, ho.setLow (by omega) 1 _, by simp [World.setCell]⟩
structure UQ (rd : Int) (A : Option Addr) (n c : Nat) (o0 o1 o2 : Bool) (w W : World) : Prop where
  sb : Blk W (w.heap.size) 25 #[.int .i64 rd, .slice A n c, .bool o0, .bool o1, .bool o2]
  rb : Blk W (w.heap.size + 1) 25 #[.int .i64 0, .slice none 0 0, .bool false, .bool false, .bool false]
  bel : Below w.heap.size w W
theorem UQ.below {rd : Int} {A : Option Addr} {n c : Nat} {o0 o1 o2 : Bool} {w W W' : World} (h : UQ rd A n c o0 o1 o2 w W) (hb : Below W.heap.size W W') : UQ rd A n c o0 o1 o2 w W' := ⟨h.sb.belowAll hb, h.rb.belowAll hb, h.bel.trans (hb.mono h.bel.size)⟩
theorem UQ.alloc {rd : Int} {A : Option Addr} {n c : Nat} {o0 o1 o2 : Bool} {w W : World} (h : UQ rd A n c o0 o1 o2 w W) (o : Obj) : UQ rd A n c o0 o1 o2 w (W.alloc o) := ⟨h.sb.alloc o, h.rb.alloc o, h.bel.alloc h.bel.size o⟩
theorem UQ.drew {rd : Int} {A : Option Addr} {n c : Nat} {o0 o1 o2 : Bool} {w W : World} (h : UQ rd A n c o0 o1 o2 w W) : UQ rd A n c o0 o1 o2 w W.drew := ⟨h.sb.drew, h.rb.drew, h.bel.drew⟩
theorem UQ.new (rd : Int) (A : Option Addr) (n c : Nat) (o0 o1 o2 : Bool) (w : World) : UQ rd A n c o0 o1 o2 w ((w.alloc (.cells #[.int .i64 rd, .slice A n c, .bool o0, .bool o1, .bool o2] 25)).alloc (.cells #[.int .i64 0, .slice none 0 0, .bool false, .bool false, .bool false] 25)) := by
  have z1 : (w.alloc (.cells #[.int .i64 rd, .slice A n c, .bool o0, .bool o1, .bool o2] 25)).heap.size = w.heap.size + 1 := by simp
  have b0 := Blk.new w 25 #[.int .i64 rd, .slice A n c, .bool o0, .bool o1, .bool o2]
  have b1 := Blk.new (w.alloc (.cells #[.int .i64 rd, .slice A n c, .bool o0, .bool o1, .bool o2] 25)) 25 #[.int .i64 0, .slice none 0 0, .bool false, .bool false, .bool false]
  rw [z1] at b1
  have bel : Below w.heap.size w ((w.alloc (.cells #[.int .i64 rd, .slice A n c, .bool o0, .bool o1, .bool o2] 25)).alloc (.cells #[.int .i64 0, .slice none 0 0, .bool false, .bool false, .bool false] 25)) := ((Below.refl w.heap.size w).alloc (Nat.le_refl _) _).alloc (by rw [z1]; omega) _
  exact ⟨(b0.alloc _), b1, bel⟩
theorem UQ.pods {rd : Int} {A : Option Addr} {n c : Nat} {o0 o1 o2 : Bool} {w W : World} (h : UQ rd A n c o0 o1 o2 w W) (A2 : Option Addr) (n2 c2 : Nat) : UQ rd A2 n2 c2 o0 o1 o2 w (W.setCell ⟨w.heap.size, 1, none⟩ (.slice A2 n2 c2)) :=
  ⟨h.sb.set_ 1 _, h.rb.far (by show w.heap.size + 1 ≠ w.heap.size; omega) _, h.bel.setCell (Nat.le_refl _) _⟩
theorem UQ.grown {rd : Int} {A : Option Addr} {n c : Nat} {o0 o1 o2 : Bool} {w W W' : World} (h : UQ rd A n c o0 o1 o2 w W) {row : Option Nat} (hg : W.grownBy W' row) (hne : ∀ k, row = some k → w.heap.size + 1 < k) : UQ rd A n c o0 o1 o2 w W' :=
  ⟨h.sb.grown hg (by intro e'; have := hne _ e'.symm; omega), h.rb.grown hg (by intro e'; have := hne _ e'.symm; omega), h.bel.grown hg h.bel.size (by intro k hk; have := hne k hk; omega)⟩
theorem UQ.podsEx {rd : Int} {A : Option Addr} {n c : Nat} {o0 o1 o2 : Bool} {w W : World} (h : UQ rd A n c o0 o1 o2 w W) {A2 : Option Addr} {n2 c2 : Nat} {base : Nat} {v : Value} {L : List En} (ho : Own W base 46 encN v L) (hl : w.heap.size + 1 < base) :
    ∃ v1, W.setCell ⟨w.heap.size, 1, none⟩ (.slice A2 n2 c2) = v1 ∧ UQ rd A2 n2 c2 o0 o1 o2 w v1 ∧ Own v1 base 46 encN v L ∧ v1.heap.size = W.heap.size := ⟨_, rfl, h.pods A2 n2 c2, ho.setLow (by omega) 1 _, by simp [World.setCell]⟩

set_option maxRecDepth 100000 in
set_option maxHeartbeats 8000000 in
theorem with_any (rd : Int) (l : List En) (e : En) (A : Option Addr) (c : Nat) (o0 o1 o2 : Bool) (w : World) (hr : Rds w encN A l) (hl : l.length ≤ 100000) (hs : SortedN l) :
    Calls Tryd.prog 23 #[.agg #[.int .i64 rd, .slice A l.length c, .bool o0, .bool o1, .bool o2], .agg #[.string e.pod.id, .int .i64 e.pod.prio, .bool e.pod.crit, .int .i64 e.pod.q0, .int .i64 e.pod.q1, .int .i64 e.pod.q2, .int .i64 e.pod.l0, .int .i64 e.pod.l1, .int .i64 e.pod.l2, .string e.pod.image, .int .i64 e.pod.size, .int .i64 e.phase]] w (GivesSt rd o0 o1 o2 (withD l e) w) := by
  have HQ := Lib.hid (WQ.new rd A l.length c o0 o1 o2 e w)
  have HR := Lib.hid hr
  have HS := Lib.hid hs
  clear hr hs
  go_enter Tryd.func23, Tryd.ntmps23
  have cs := HQ.out.sb.cell
  have ce := HQ.out.eb.cell
  go_wp2_with fail
  refine (at_any rd l e.pod.id A c o0 o1 o2 _ (HR.out.below HQ.out.bel) (by omega) HS.out).mono ?_; rintro x w1 ⟨rfl, hb⟩
  have HQ := Lib.hid (HQ.out.below hb)
  clear hb cs ce
  have cs := HQ.out.sb.cell
  have fs := HQ.out.sb.frozen
  go_wp2_with fail
  refine (clone_any l A c _ (HR.out.below HQ.out.bel) hl).mono ?_; rintro x w2 ⟨A2, c2, rfl, hO, hb⟩
  have HLT := Lib.hid HQ.out.rb.lt
  have HQ := Lib.hid (HQ.out.below hb)
  have hb0 := hb.size
  clear hb cs fs
  have HBB := Lib.hid hb0
  clear hb0
  obtain ⟨v1, hv1, hq1, ho1, hz1⟩ := HQ.out.podsEx (A2 := A2) (n2 := l.length) (c2 := c2) hO HLT.out
  have HZ1 := Lib.hid hz1
  generalize w1.heap.size = B at *
  have cs := HQ.out.sb.cell
  have fs := HQ.out.sb.frozen
  have HO := Lib.hid ho1
  have HQ1 := Lib.hid hq1
  clear ho1 hq1 hO hz1
  cases hat : isAt l e.pod.id
  · have HWD := Lib.hid (show withD l e = insI l (lowerI l e.pod.id) e by unfold withD; rw [hat]; rfl)
    have hle := lowerI_le l e.pod.id
    have HLEN := Lib.hid (show (withD l e).length = l.length + 1 by rw [HWD.out]; exact insI_len l _ _ hle)
    clear hat
    obtain ⟨i, hi⟩ : ∃ i, i = lowerI l e.pod.id := ⟨_, rfl⟩
    rw [← hi] at hle HWD ⊢
    clear hi
    have HBv := Lib.hid (Blk.new v1 46 #[.string e.pod.id, .int .i64 e.pod.prio, .bool e.pod.crit, .int .i64 e.pod.q0, .int .i64 e.pod.q1, .int .i64 e.pod.q2, .int .i64 e.pod.l0, .int .i64 e.pod.l1, .int .i64 e.pod.l2, .string e.pod.image, .int .i64 e.pod.size, .int .i64 e.phase])
    have HO2 := Lib.hid (HO.out.alloc (.cells #[.string e.pod.id, .int .i64 e.pod.prio, .bool e.pod.crit, .int .i64 e.pod.q0, .int .i64 e.pod.q1, .int .i64 e.pod.q2, .int .i64 e.pod.l0, .int .i64 e.pod.l1, .int .i64 e.pod.l2, .string e.pod.image, .int .i64 e.pod.size, .int .i64 e.phase] 46))
    have HNE := Lib.hid (show some v1.heap.size ≠ (Value.slice A2 l.length c2).ownBlock from fun e' => by have := (HO.out.block_lt _ e'.symm).2; omega)
    have HQ2 := Lib.hid (HQ1.out.alloc (.cells #[.string e.pod.id, .int .i64 e.pod.prio, .bool e.pod.crit, .int .i64 e.pod.q0, .int .i64 e.pod.q1, .int .i64 e.pod.q2, .int .i64 e.pod.l0, .int .i64 e.pod.l1, .int .i64 e.pod.l2, .string e.pod.image, .int .i64 e.pod.size, .int .i64 e.phase] 46))
    have HSZ := Lib.hid HO2.out
    have ce := HQ.out.eb.cell
    have hq1 := HQ1.out
    have cs1 := HQ1.out.sb.cell
    have ce1 := HQ1.out.eb.cell
    clear hq1
    have HBV : Hid (B ≤ (v1.alloc (.cells #[.string e.pod.id, .int .i64 e.pod.prio, .bool e.pod.crit, .int .i64 e.pod.q0, .int .i64 e.pod.q1, .int .i64 e.pod.q2, .int .i64 e.pod.l0, .int .i64 e.pod.l1, .int .i64 e.pod.l2, .string e.pod.image, .int .i64 e.pod.size, .int .i64 e.phase] 46)).heap.size) := by show _ ≤ _; have h1 := HBB.out; have h2 := HZ1.out; simp; omega
    go_wp2_with fail
    refine (insert_any (x := e) HO2.out HBv.out HNE.out HBV.out hl hle).mono ?_; rintro x w3 ⟨A3, c3, rfl, hO3, hg3⟩
    have HQ := Lib.hid (HQ2.out.grown hg3 (fun k hk => by have := (HO2.out.block_lt k hk).1; have := HLT.out; omega))
    clear cs fs ce cs1 ce1 hv1 HQ1 HQ2 hg3
    obtain ⟨v4, hv4, hq4, ho4, hz4⟩ := HQ.out.podsEx (A2 := A3) (n2 := l.length + 1) (c2 := c3) hO3 HLT.out
    have cs := HQ.out.sb.cell
    have fs := HQ.out.sb.frozen
    have HQ4 := Lib.hid hq4
    have HO4 := Lib.hid ho4
    have cs4 := HQ4.out.sb.cell
    have HLTB := Lib.hid HQ4.out.bel.size
    clear hq4 ho4 hz4 hO3
    have HQ := HQ4
    go_wp2_with (refine wl_store_blk rfl 25 (.tmp 4) (.tmp 32) rfl (w.heap.size + 1 + 1) 25 #[.int .i64 0, .slice none 0 0, .bool false, .bool false, .bool false] #[.int .i64 rd, .slice A3 (l.length + 1) c3, .bool o0, .bool o1, .bool o2] rfl rfl HQ.out.rb rfl infoS (by simp [Value.oneCell']) ?_; intro w5 hR5 hg5 hs5)
    have hl5 := hR5.cell
    have HB5 : Below w.heap.size w w5 := HQ.out.bel.grown hg5 HQ.out.bel.size (by intro k hk; cases hk; omega)
    exact bodyPost_ret (v := .agg #[.int .i64 rd, .slice A3 (l.length + 1) c3, .bool o0, .bool o1, .bool o2]) (by simp [results, Tryd.results23, go_sem, hl5]) rfl ⟨A3, c3, by rw [HLEN.out], by rw [HLEN.out, HWD.out]; exact (HO4.out.grown hg5 (.inr fun e' => by have := (HO4.out.block_lt _ e').1; have := HLT.out; omega)).mono (by have := HLT.out; omega), HB5⟩
  · obtain ⟨hlt, _⟩ := isAt_lt hat
    have HWD := Lib.hid (show withD l e = l.set (lowerI l e.pod.id) e by unfold withD; rw [if_pos hat])
    have HLEN := Lib.hid (show (withD l e).length = l.length by rw [HWD.out, List.length_set])
    have hne : l ≠ [] := by intro e'; subst e'; simp at hlt
    clear hat
    obtain ⟨i, hi⟩ : ∃ i, i = lowerI l e.pod.id := ⟨_, rfl⟩
    rw [← hi] at hlt HWD ⊢
    clear hi
    obtain ⟨g, hA2, hge⟩ := own_some HO.out hne
    subst hA2
    have cs1 := HQ1.out.sb.cell
    have ce1 := HQ1.out.eb.cell
    have dk : (i : Int) < (l.length : Int) := by omega
    go_wp2_with (first | (refine wl_store_own rfl 46 (.tmp 24) (.tmp 23) rfl g c2 e #[.string e.pod.id, .int .i64 e.pod.prio, .bool e.pod.crit, .int .i64 e.pod.q0, .int .i64 e.pod.q1, .int .i64 e.pod.q2, .int .i64 e.pod.l0, .int .i64 e.pod.l1, .int .i64 e.pod.l2, .string e.pod.image, .int .i64 e.pod.size, .int .i64 e.phase] (by first | rfl | simp) rfl HO.out hlt rfl infoE ?_; intro w3 ho hg _; have HO3 := Lib.hid ho; have HQ := Lib.hid (HQ1.out.grown hg (fun k hk => by injection hk with hk; have := HLT.out; omega)); clear ho hg cs fs cs1 ce1 hv1; have cs3 := HQ.out.sb.cell) | (refine wl_store_blk rfl 25 (.tmp 4) (.tmp 32) rfl (w.heap.size + 1 + 1) 25 #[.int .i64 0, .slice none 0 0, .bool false, .bool false, .bool false] #[.int .i64 rd, .slice (some ⟨g, 0, none⟩) l.length c2, .bool o0, .bool o1, .bool o2] rfl rfl HQ.out.rb rfl infoS (by simp [Value.oneCell']) ?_; intro w5 hR5 hg5 hs5))
    have hl5 := hR5.cell
    have HB5 : Below w.heap.size w w5 := HQ.out.bel.grown hg5 HQ.out.bel.size (by intro k hk; cases hk; omega)
    exact bodyPost_ret (v := .agg #[.int .i64 rd, .slice (some ⟨g, 0, none⟩) l.length c2, .bool o0, .bool o1, .bool o2]) (by simp [results, Tryd.results23, go_sem, hl5]) rfl ⟨some ⟨g, 0, none⟩, c2, by rw [HLEN.out], by rw [HLEN.out, HWD.out]; exact (HO3.out.grown hg5 (.inr fun e' => by have := (HO3.out.block_lt _ e').1; have := HLT.out; omega)).mono (by have := HLT.out; omega), HB5⟩
set_option maxRecDepth 100000 in
set_option maxHeartbeats 8000000 in
theorem without_any (rd : Int) (l : List En) (s : ByteArray) (A : Option Addr) (c : Nat) (o0 o1 o2 : Bool) (w : World) (hr : Rds w encN A l) (hl : l.length ≤ 100000) (hs : SortedN l) :
    Calls Tryd.prog 24 #[.agg #[.int .i64 rd, .slice A l.length c, .bool o0, .bool o1, .bool o2], .string s] w (GivesSt rd o0 o1 o2 (withoutS l s) w) := by
  have HQ := Lib.hid (UQ.new rd A l.length c o0 o1 o2 w)
  have HR := Lib.hid hr
  have HS := Lib.hid hs
  clear hr hs
  go_enter Tryd.func24, Tryd.ntmps24
  have cs := HQ.out.sb.cell
  go_wp2_with fail
  refine (at_any rd l s A c o0 o1 o2 _ (HR.out.below HQ.out.bel) (by omega) HS.out).mono ?_; rintro x w1 ⟨rfl, hb⟩
  have HQ := Lib.hid (HQ.out.below hb)
  clear hb cs
  have cs := HQ.out.sb.cell
  have fs := HQ.out.sb.frozen
  go_wp2_with fail
  refine (clone_any l A c _ (HR.out.below HQ.out.bel) hl).mono ?_; rintro x w2 ⟨A2, c2, rfl, hO, hb⟩
  have HLT := Lib.hid HQ.out.rb.lt
  have HQ := Lib.hid (HQ.out.below hb)
  clear hb cs fs
  obtain ⟨v1, hv1, hq1, ho1, hz1⟩ := HQ.out.podsEx (A2 := A2) (n2 := l.length) (c2 := c2) hO HLT.out
  generalize w1.heap.size = B at *
  have cs := HQ.out.sb.cell
  have fs := HQ.out.sb.frozen
  have HO := Lib.hid ho1
  have HQ1 := Lib.hid hq1
  clear ho1 hq1 hO hz1
  cases hat : isAt l s
  · have HWD := Lib.hid (show withoutS l s = l by unfold withoutS; rw [hat]; rfl)
    clear hat
    have cs1 := HQ1.out.sb.cell
    have HQ := HQ1
    go_wp2_with (refine wl_store_blk rfl 25 (.tmp 4) (.tmp 25) rfl (w.heap.size + 1) 25 #[.int .i64 0, .slice none 0 0, .bool false, .bool false, .bool false] #[.int .i64 rd, .slice A2 l.length c2, .bool o0, .bool o1, .bool o2] rfl rfl HQ.out.rb rfl infoS (by simp [Value.oneCell']) ?_; intro w5 hR5 hg5 hs5)
    have hl5 := hR5.cell
    have HB5 : Below w.heap.size w w5 := HQ.out.bel.grown hg5 HQ.out.bel.size (by intro k hk; cases hk; omega)
    exact bodyPost_ret (v := .agg #[.int .i64 rd, .slice A2 l.length c2, .bool o0, .bool o1, .bool o2]) (by simp [results, Tryd.results24, go_sem, hl5]) rfl ⟨A2, c2, by rw [HWD.out], by rw [HWD.out]; exact (HO.out.grown hg5 (.inr fun e' => by have := (HO.out.block_lt _ e').1; have := HLT.out; omega)).mono (by have := HLT.out; omega), HB5⟩
  · obtain ⟨hlt, _⟩ := isAt_lt hat
    have HWD := Lib.hid (show withoutS l s = delI l (lowerI l s) by unfold withoutS; rw [if_pos hat])
    have HLEN := Lib.hid (show (withoutS l s).length = l.length - 1 by rw [HWD.out]; exact delI_len _ _ hlt)
    clear hat
    obtain ⟨i, hi⟩ : ∃ i, i = lowerI l s := ⟨_, rfl⟩
    rw [← hi] at hlt HWD ⊢
    clear hi
    have hw1 : IntKind.i64.wrap ((i : Int) + 1) = (i : Int) + 1 := by rw [IntKind.wrap_i64]; omega
    have cs1 := HQ1.out.sb.cell
    go_wp2_with fail
    refine (delete_any HO.out hl hlt).mono ?_; rintro x w3 ⟨A3, c3, rfl, hO3, hg3⟩
    have HQ := Lib.hid (HQ1.out.grown hg3 (fun k hk => by have := (HO.out.block_lt k hk).1; have := HLT.out; omega))
    clear cs fs cs1 hv1 HQ1 hg3
    obtain ⟨v4, hv4, hq4, ho4, hz4⟩ := HQ.out.podsEx (A2 := A3) (n2 := l.length - 1) (c2 := c3) hO3 HLT.out
    have cs := HQ.out.sb.cell
    have fs := HQ.out.sb.frozen
    have HQ4 := Lib.hid hq4
    have HO4 := Lib.hid ho4
    have cs4 := HQ4.out.sb.cell
    clear hq4 ho4 hz4 hO3
    have HQ := HQ4
    go_wp2_with (refine wl_store_blk rfl 25 (.tmp 4) (.tmp 25) rfl (w.heap.size + 1) 25 #[.int .i64 0, .slice none 0 0, .bool false, .bool false, .bool false] #[.int .i64 rd, .slice A3 (l.length - 1) c3, .bool o0, .bool o1, .bool o2] rfl rfl HQ.out.rb rfl infoS (by simp [Value.oneCell']) ?_; intro w5 hR5 hg5 hs5)
    have hl5 := hR5.cell
    have HB5 : Below w.heap.size w w5 := HQ.out.bel.grown hg5 HQ.out.bel.size (by intro k hk; cases hk; omega)
    exact bodyPost_ret (v := .agg #[.int .i64 rd, .slice A3 (l.length - 1) c3, .bool o0, .bool o1, .bool o2]) (by simp [results, Tryd.results24, go_sem, hl5]) rfl ⟨A3, c3, by rw [HLEN.out], by rw [HLEN.out, HWD.out]; exact (HO4.out.grown hg5 (.inr fun e' => by have := (HO4.out.block_lt _ e').1; have := HLT.out; omega)).mono (by have := HLT.out; omega), HB5⟩
end Go.Proofs.YtakgblgbfbpmoaaDoor

namespace Go.Proofs.YtakgblgbfbpmoaaDoor
open Go.RowKit

/-- the k-th byte of a number, from the lowest on -/
def byteAt (n : Int) (k : Nat) : UInt8 := UInt8.ofNat ((n / (256 ^ k : Int)) % 256).toNat
/-- its lowest k bytes, the highest of them first -/
def wordTo (n : Int) : Nat → List UInt8
  | 0 => []
  | k + 1 => byteAt n k :: wordTo n k
theorem wordTo_len (n : Int) (k : Nat) : (wordTo n k).length = k := by
  induction k with
  | zero => rfl
  | succ k ih => rw [wordTo, List.length_cons, ih]
def word (n : Int) : List UInt8 := wordTo n 8
theorem byteAt_nat (n : Int) (k : Nat) : ((byteAt n k).toNat : Int) = (n / (256 ^ k : Int)) % 256 := by
  unfold byteAt
  have h1 : 0 ≤ (n / (256 ^ k : Int)) % 256 := Int.emod_nonneg _ (by decide)
  have h2 : (n / (256 ^ k : Int)) % 256 < 256 := Int.emod_lt_of_pos _ (by decide)
  rw [UInt8.toNat_ofNat']
  omega

/-- what is left of a number, as a uint64, when k bytes are gone -/
def left64 (n : Int) (k : Nat) : Int := n % 18446744073709551616 / 256 ^ k
theorem left64_bd (n : Int) (k : Nat) : 0 ≤ left64 n k ∧ left64 n k ≤ 18446744073709551615 := by
  unfold left64
  have h0 : 0 ≤ n % 18446744073709551616 := Int.emod_nonneg _ (by decide)
  have h1 : n % 18446744073709551616 < 18446744073709551616 := Int.emod_lt_of_pos _ (by decide)
  have hp : (0 : Int) < 256 ^ k := Int.pow_pos (by decide)
  refine ⟨Int.ediv_nonneg h0 (Int.le_of_lt hp), ?_⟩
  have := Int.ediv_le_self (256 ^ k) h0
  omega
theorem left64_succ (n : Int) (k : Nat) : left64 n k / 256 = left64 n (k + 1) := by
  unfold left64
  rw [Int.ediv_ediv, if_neg (by have : (0 : Int) < 256 ^ k := Int.pow_pos (by decide); omega), Int.pow_succ]; omega
theorem left64_zero (n : Int) : left64 n 0 = n % 18446744073709551616 := by simp [left64]
theorem left64_byte (n : Int) (k : Nat) (hk : k < 8) : left64 n k % 256 = ((byteAt n k).toNat : Int) := by
  rw [byteAt_nat]
  unfold left64
  obtain rfl | rfl | rfl | rfl | rfl | rfl | rfl | rfl : k = 0 ∨ k = 1 ∨ k = 2 ∨ k = 3 ∨ k = 4 ∨ k = 5 ∨ k = 6 ∨ k = 7 := by omega
  all_goals omega

theorem elemB : Elem Tryd.prog 28 5 1 1 := by
  obtain ⟨i, h1, h2, h3, h4⟩ := info_parts (show (Tryd.prog.info? 5).map (fun i => (i.zero, i.size, i.bytes)) = some (some (.int .u8 0), 1, 1) by kernel_rfl)
  exact ⟨Tryd.underlying28, i, _, h1, h2, h3, h4, rfl⟩
theorem elemB_zero : ∀ i, Tryd.prog.info? 5 = some i → i.zero = some (.int .u8 0) := by
  obtain ⟨i, h1, h2, h3, h4⟩ := info_parts (show (Tryd.prog.info? 5).map (fun i => (i.zero, i.size, i.bytes)) = some (some (.int .u8 0), 1, 1) by kernel_rfl)
  intro j hj
  rw [h1] at hj
  cases hj
  exact h2

set_option maxHeartbeats 1000000 in
theorem refWord_any (n : Int) (w : World) (hn : I64 n) :
    Calls Tryd.prog 49 #[.int .i64 n] w fun e w' => ∃ A c, e = .returned (.slice A (word n).length c) ∧ Own w' w.heap.size 5 encB (.slice A (word n).length c) (word n) ∧ Below w.heap.size w w' := by
  obtain ⟨hn1, hn2⟩ := hn
  have hz := left64_zero n
  have hw : IntKind.u64.wrap n = left64 n 0 := by rw [hz]; simp [IntKind.wrap, IntKind.bits, IntKind.signed]
  clear hz
  go_enter Tryd.func49, Tryd.ntmps49
  go_wp2
  go_loopw [3, 4, 5] (fun o x i wr => ∃ (k : Nat) (A : Option Addr) (c : Nat), k ≤ 8 ∧ i = .int .i64 k ∧ x = .int .u64 (left64 n k) ∧ o = .slice A (wordTo n k).length c ∧
      Own wr w.heap.size 5 encB (.slice A (wordTo n k).length c) (wordTo n k) ∧ Below w.heap.size w wr) (fun _ _ i _ => 8 - (intOf i).toNat)
  case atStart => exact ⟨0, none, 0, by omega, rfl, rfl, rfl, Own.nil_ _ _ _ _, Below.refl _ _⟩
  case round =>
    obtain ⟨k, A, c, hk, rfl, rfl, rfl, hown, hbel⟩ := hrel
    have hx := left64_bd n k
    obtain ⟨hx1, hx2⟩ := hx
    by_cases hlt : k < 8
    · have hsz := hbel.size
      have hb := Lib.hid (left64_byte n k hlt)
      have hs := Lib.hid (left64_succ n k)
      have hmade := Own.made wr w.heap.size 5 encB [byteAt n k] #[.int .u8 (left64 n k % 256)] (by rw [hb.out, encB_all]; rfl) hsz (by simp)
      have hrd := (hown.toRds).alloc (.cells #[.int .u8 (left64 n k % 256)] 5)
      have hl := wordTo_len n k
      have HL := Lib.hid hl
      clear hl
      have H := Lib.hid (And.intro hmade hrd)
      clear hmade hrd
      go_wp2_with (at_builtin; refine wl_app elemB encB rfl (.tmp 15) (.tmp 16) rfl w.heap.size _ [byteAt n k] rfl H.out.1 A (wordTo n k) c rfl H.out.2 (by rw [HL.out]; simp; omega) (by rw [HL.out]; simp; omega) (by simp; omega) ?_; intro A' c' w1 hown1 hgrow1 _)
      have el : [byteAt n k].length + (wordTo n k).length = (wordTo n (k + 1)).length := by simp [wordTo, Nat.add_comm]
      rw [el] at hown1
      have EL := Lib.hid el
      clear el
      go_roundw
      case rel => exact ⟨k + 1, A', c', by omega, by go_num, by rw [← hs.out], by rw [← EL.out]; rfl, hown1, H.out.1.belowGrown (hbel.alloc hsz _) hgrow1 (Nat.le_refl _) (by simp; omega)⟩
      case measure => simp [intOf]; omega
    · obtain rfl : k = 8 := by omega
      go_wp2
      go_ret
      exact ⟨A, c, rfl, hown, hbel⟩
end Go.Proofs.YtakgblgbfbpmoaaDoor

namespace Go.Proofs.YtakgblgbfbpmoaaDoor
open Go.RowKit

def str (l : List UInt8) : ByteArray := ⟨l.toArray⟩
theorem str_list (l : List UInt8) : (str l).data.toList = l := rfl
theorem str_size (l : List UInt8) : (str l).size = l.length := rfl

section
variable {P : Program} {t e d : TypeId}
/-- a slice of bytes as a string -/
theorem run_str (w : World) (ht : P.underlying t = some (.slice e)) (he : P.underlying e = some (.int .u8)) (hd : P.underlying d = some .string) (A : Option Addr) (l : List UInt8) (c : Nat) (hr : Rds w encB A l) :
    (convert t d (.slice A l.length c)).run P w = .ok (.string (str l)) w := by
  rcases A with _ | ad
  · have : l = [] := by
      rcases l with _ | ⟨a, l⟩
      · rfl
      · obtain ⟨b, off, h, _⟩ := hr (by simp); cases h
    subst this
    exact run_convert_bytes_nil w t e ht he _ _ d hd
  · have hl : (loadCells ad l.length).run P w = .ok ((l.map fun b => (b.toNat : Int)).map (Value.int .u8)).toArray w := by
      have := run_loadCells_list (P := P) w ad ((l.map fun b => (b.toNat : Int)).map (Value.int .u8)) (fun j v hj => by
        have hj' : (encB.all l)[j]? = some v := by rw [encB_all]; simpa using hj
        have hne : l ≠ [] := by rintro rfl; simp at hj
        obtain ⟨b, off, h, _, hc⟩ := hr hne
        injection h with h; subst h
        rw [add_mk]
        exact hc j v hj')
      simpa using this
    rw [run_convert_bytes_string w t d e _ _ c ht he hd, run_bytesToString w _ _ c _ hl, foldl_push_bytes]
    congr 2
    show (⟨#[] ++ _⟩ : ByteArray) = _
    unfold str
    congr 1
    apply Array.ext'
    simp
    apply List.ext_getElem?
    intro i
    simp
    cases l[i]? <;> simp
end

theorem underlyingB : Tryd.prog.underlying 5 = some (.int .u8) := Tryd.underlying5

theorem run_strB (w : World) (A : Option Addr) (l : List UInt8) (c : Nat) (hr : Rds w encB A l) : (convert 28 9 (.slice A l.length c)).run Tryd.prog w = .ok (.string (str l)) w :=
  run_str w Tryd.underlying28 Tryd.underlying5 Tryd.underlying9 A l c hr

theorem str_beq (l m : List UInt8) : ((str l).toList == (str m).toList) = (l == m) := by
  rw [Bool.eq_iff_iff]; simp [ByteArray.toList_eq, str_list]

theorem same_any (A1 A2 : Option Addr) (l m : List UInt8) (c1 c2 : Nat) (w : World) (h1 : Rds w encB A1 l) (h2 : Rds w encB A2 m) :
    Calls Tryd.prog 16 #[.slice A1 l.length c1, .slice A2 m.length c2] w fun e w' => e = .returned (.bool (l == m)) ∧ w = w' := by
  have r1 := run_strB w A1 l c1 h1
  have r2 := run_strB w A2 m c2 h2
  rw [← str_beq]
  generalize str l = x at *
  generalize str m = y at *
  clear h1 h2
  go_enter Tryd.func16, Tryd.ntmps16
  go_wp2
  go_ret
  exact ⟨rfl, rfl⟩

/-- a string as a slice of bytes -/
theorem conv_bytes (w : World) (s : ByteArray) : ∃ c w', (convert 9 28 (.string s)).run Tryd.prog w = .ok (.slice (some ⟨w.heap.size, 0, none⟩) s.size c) w' ∧ Rdf w' w.heap.size encB (some ⟨w.heap.size, 0, none⟩) s.data.toList ∧ Below w.heap.size w w' := by
  refine ⟨_, _, Lib.run_convert_string_bytes w _ _ _ s Tryd.underlying9 Tryd.underlying28 Tryd.underlying5, ?_, ?_⟩
  · intro _
    refine ⟨w.heap.size, 0, rfl, Nat.le_refl _, by rw [Lib.bytesWorld_size]; omega, fun j u hu => ?_⟩
    rw [encB_all] at hu
    simp at hu
    obtain ⟨b, hb, rfl⟩ := hu
    have hj : j < s.size := by
      rcases Nat.lt_or_ge j s.size with h | h
      · exact h
      · rw [Array.getElem?_eq_none h] at hb; cases hb
    rw [Nat.zero_add, Lib.bytesWorld_cell w _ s j hj]
    simp [List.getD, hb]
  · exact ⟨rfl, rfl, rfl, by rw [Lib.bytesWorld_size]; omega, fun k hk => Lib.bytesWorld_at_old w _ s k hk⟩

theorem wp_conv {w : World} {o : Oper} {a : Act} {K : Act → World → Prop} {Q : Exit → Act → World → Prop} (x : Operand) (ho : o.op = .convert 9 28 x) (s : ByteArray) (hx : a.eval x = .string s)
    (h : ∀ c w', Rdf w' w.heap.size encB (some ⟨w.heap.size, 0, none⟩) s.data.toList → Below w.heap.size w w' → K (a.put o.dst (.slice (some ⟨w.heap.size, 0, none⟩) s.size c)) w') : o.wp Tryd.prog a w K Q := by
  obtain ⟨c, w', hr, h1, h2⟩ := conv_bytes w s
  unfold Oper.wp execOp
  simp only [ho, hx, Sem.run_bind, Result.andThen_ok, hr]
  exact h c w' h1 h2
theorem wl_conv {w : World} {ops : Array Oper} {rest : List Oper} {o : Oper} {a : Act} {Q : Exit → Act → World → Prop} (hgd : o.guard = none) (x : Operand) (ho : o.op = .convert 9 28 x) (s : ByteArray) (hx : a.eval x = .string s)
    (h : ∀ c w', Rdf w' w.heap.size encB (some ⟨w.heap.size, 0, none⟩) s.data.toList → Below w.heap.size w w' → wpList Tryd.prog ops Q rest (a.put o.dst (.slice (some ⟨w.heap.size, 0, none⟩) s.size c)) w') : wpList Tryd.prog ops Q (o :: rest) a w :=
  wpList_plain hgd fun _ hK => wp_conv x ho s hx fun c w' h1 h2 => hK _ _ (h c w' h1 h2)
theorem step_conv {w : World} {ops : Array Oper} {o : Oper} {a : Act} {K : Act → World → Prop} {Q : Exit → Act → World → Prop} {X : Prop} (hgd : o.guard = none) (x : Operand) (ho : o.op = .convert 9 28 x) (s : ByteArray) (hx : a.eval x = .string s)
    (h : ∀ c w', Rdf w' w.heap.size encB (some ⟨w.heap.size, 0, none⟩) s.data.toList → Below w.heap.size w w' → K (a.put o.dst (.slice (some ⟨w.heap.size, 0, none⟩) s.size c)) w') : if Region.wanted o (yielded ops a.tmps) = true then Oper.wp Tryd.prog o a w K Q else X := by
  have hw : Region.wanted o (yielded ops a.tmps) = true := by simp [Region.wanted, hgd]
  rw [if_pos hw]
  exact wp_conv x ho s hx h
end Go.Proofs.YtakgblgbfbpmoaaDoor

namespace Go.Proofs.YtakgblgbfbpmoaaDoor
open Go.RowKit

abbrev numPtrs (b : Nat) : Array Value := #[.pointer (some ⟨b, 1, none⟩), .pointer (some ⟨b, 10, none⟩), .pointer (some ⟨b, 3, none⟩), .pointer (some ⟨b, 4, none⟩), .pointer (some ⟨b, 5, none⟩), .pointer (some ⟨b, 6, none⟩), .pointer (some ⟨b, 7, none⟩), .pointer (some ⟨b, 8, none⟩)]

set_option maxHeartbeats 2000000 in
theorem numbers_any (b : Nat) (w : World) :
    Calls Tryd.prog 48 #[.pointer (some ⟨b, 0, none⟩)] w fun e w' => e = .returned (.slice (some ⟨w.heap.size, 0, none⟩) 8 8) ∧ Blk w' w.heap.size 88 (numPtrs b) ∧ Below w.heap.size w w' ∧ w'.heap.size = w.heap.size + 1 := by
  go_enter Tryd.func48, Tryd.ntmps48
  go_wp2
  go_region_with (fail)
  go_wp2
  go_ret
  exact ⟨rfl, Blk.new _ _ _, (Below.refl _ _).drew.alloc (by exact Nat.le_refl _) _, by simp⟩
end Go.Proofs.YtakgblgbfbpmoaaDoor
