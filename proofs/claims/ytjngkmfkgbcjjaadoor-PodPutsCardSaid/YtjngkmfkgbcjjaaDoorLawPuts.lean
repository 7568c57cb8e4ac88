/- bilgelaw12.PodPuts: whatever pod and text. -/
import Derived.Test.YtjngkmfkgbcjjaaDoorAwake
import Derived.Test.YtjngkmfkgbcjjaaDoorRefPut
import Derived.Deep.RegionHeld3
namespace Go.Proofs.YtjngkmfkgbcjjaaDoor
open Go.RowKit

/-- a pod's box, cell by cell -/
theorem PS.all {p : Pd} {w W : World} (h : PS p w W) : (W.cell? ⟨w.heap.size, 0, none⟩ = some (.string p.id) ∧ W.cell? ⟨w.heap.size, 1, none⟩ = some (.int .i64 p.prio) ∧ W.cell? ⟨w.heap.size, 2, none⟩ = some (.bool p.crit) ∧ W.cell? ⟨w.heap.size, 3, none⟩ = some (.int .i64 p.q0) ∧ W.cell? ⟨w.heap.size, 4, none⟩ = some (.int .i64 p.q1) ∧ W.cell? ⟨w.heap.size, 5, none⟩ = some (.int .i64 p.q2) ∧ W.cell? ⟨w.heap.size, 6, none⟩ = some (.int .i64 p.l0) ∧ W.cell? ⟨w.heap.size, 7, none⟩ = some (.int .i64 p.l1) ∧ W.cell? ⟨w.heap.size, 8, none⟩ = some (.int .i64 p.l2) ∧ W.cell? ⟨w.heap.size, 9, none⟩ = some (.string p.image) ∧ W.cell? ⟨w.heap.size, 10, none⟩ = some (.int .i64 p.size)) ∧ PS p w W :=
  ⟨⟨h.c 0 rfl, h.c 1 rfl, h.c 2 rfl, h.c 3 rfl, h.c 4 rfl, h.c 5 rfl, h.c 6 rfl, h.c 7 rfl, h.c 8 rfl, h.c 9 rfl, h.c 10 rfl⟩, h⟩

theorem refNamed_b (s : ByteArray) (w : World) (hs : s.size ≤ 9223372036854775807) :
    Calls Tryd.prog 15 #[.string s] w fun e w' => e = .returned (.bool (named s.data.toList)) ∧ Below w.heap.size w w' :=
  (refNamed_any s w hs).mono fun _ _ h => ⟨h.1, h.2 ▸ Below.refl _ _⟩

/-- a pod's box, and the bytes that were put -/
def PO (p : Pd) (w : World) (A : Option Addr) (c : Nat) (W : World) : Prop := PS p w W ∧ Own W w.heap.size 5 encB (.slice A p.bytes.length c) p.bytes
theorem PO.mk {p : Pd} {w W : World} {A : Option Addr} {c : Nat} (h : PS p w W) (ho : Own W w.heap.size 5 encB (.slice A p.bytes.length c) p.bytes) : PO p w A c W := ⟨h, ho⟩
theorem PO.drew {p : Pd} {w W : World} {A : Option Addr} {c : Nat} (h : PO p w A c W) : PO p w A c W.drew := ⟨PS.drew h.1, h.2.drew⟩
theorem PO.below {p : Pd} {w W W' : World} {A : Option Addr} {c : Nat} (h : PO p w A c W) (hb : Below W.heap.size W W') : PO p w A c W' := ⟨PS.below h.1 hb, h.2.below hb (Nat.le_refl _)⟩
theorem PO.all {p : Pd} {w W : World} {A : Option Addr} {c : Nat} (h : PO p w A c W) : (W.cell? ⟨w.heap.size, 0, none⟩ = some (.string p.id) ∧ W.cell? ⟨w.heap.size, 1, none⟩ = some (.int .i64 p.prio) ∧ W.cell? ⟨w.heap.size, 2, none⟩ = some (.bool p.crit) ∧ W.cell? ⟨w.heap.size, 3, none⟩ = some (.int .i64 p.q0) ∧ W.cell? ⟨w.heap.size, 4, none⟩ = some (.int .i64 p.q1) ∧ W.cell? ⟨w.heap.size, 5, none⟩ = some (.int .i64 p.q2) ∧ W.cell? ⟨w.heap.size, 6, none⟩ = some (.int .i64 p.l0) ∧ W.cell? ⟨w.heap.size, 7, none⟩ = some (.int .i64 p.l1) ∧ W.cell? ⟨w.heap.size, 8, none⟩ = some (.int .i64 p.l2) ∧ W.cell? ⟨w.heap.size, 9, none⟩ = some (.string p.image) ∧ W.cell? ⟨w.heap.size, 10, none⟩ = some (.int .i64 p.size)) ∧ PO p w A c W :=
  ⟨(PS.all h.1).1, h⟩

set_option maxHeartbeats 4000000 in
/-- the law, where the pod is great or the text is long -/
theorem puts_great (p : Pd) (s : ByteArray) (w : World) (hs : s.size ≤ 9223372036854775807) (h : p.small = false ∨ 100 < s.size) :
    Calls Tryd.prog 3 #[.agg p.cells, .string s] w fun e w' => e = .returned (.bool true) ∧ Below w.heap.size w w' := by
  have h1 : p.small = false ∨ (p.small = true ∧ (100 : Int) < s.size) := by
    rcases h with h | h
    · exact Or.inl h
    · cases hsm : p.small
      · exact Or.inl rfl
      · exact Or.inr ⟨rfl, by omega⟩
  clear h
  go_enter Tryd.func3, Tryd.ntmps3
  go_wp2_with fail
  refine (awake_any _).mono ?_; rintro e w1 ⟨rfl, hb1⟩
  have P1 : PS p w w1 := (PS.start p w).below hb1
  have c1 := P1.1.cell
  have HP1 := Lib.hid P1
  clear hb1 P1
  rcases h1 with h | ⟨h, h100⟩
  all_goals
    have HS := Lib.hid h
    clear h
    go_wp2_with fail
    refine (small_any p _).mono ?_; rintro e w2 ⟨rfl, hb2⟩
    rw [HS.out]
    have HP2 := Lib.hid (HP1.out.below hb2)
    clear hb2
    go_wp2_with fail
    refine (awake_any _).mono ?_; rintro e w3 ⟨rfl, hb3⟩
    have HP3 := Lib.hid (HP2.out.below hb3)
    clear hb3
    go_wp2_with fail
    go_ret
    exact ⟨rfl, HP3.out.2⟩

set_option maxHeartbeats 8000000 in
/-- the law, where both are small -/
theorem puts_small (p : Pd) (s : ByteArray) (w : World) (hp : p.Wf) (hsm : p.small = true) (hs : s.size ≤ 100) :
    Calls Tryd.prog 3 #[.agg p.cells, .string s] w fun e w' => e = .returned (.bool true) ∧ Below w.heap.size w w' := by
  have HS := Lib.hid hsm
  clear hsm
  have hs1 : (s.size : Int) ≤ 100 := by omega
  have hs2 : s.size ≤ 9223372036854775807 := by omega
  go_enter Tryd.func3, Tryd.ntmps3
  go_wp2_with fail
  refine (awake_any _).mono ?_; rintro e w1 ⟨rfl, hb1⟩
  have P1 : PS p w w1 := (PS.start p w).below hb1
  have c1 := P1.1.cell
  have HP1 := Lib.hid P1
  clear hb1 P1
  go_wp2_with fail
  refine (small_any p _).mono ?_; rintro e w2 ⟨rfl, hb2⟩
  rw [HS.out]
  have HP2 := Lib.hid (HP1.out.below hb2)
  clear hb2 c1 HP1
  have c2 := HP2.out.1.cell
  go_wp2_with fail
  cases hrt : p.right
  · have HR := Lib.hid hrt
    clear hrt
    refine (put_no p _ hp HR.out).mono ?_; rintro e w3 ⟨rfl, hb3⟩
    have P3 := HP2.out.below hb3
    clear hb3 c2 HP2
    go_wp2_with fail
    go_region_held3 (fun W => (W.cell? ⟨w.heap.size, 0, none⟩ = some (.string p.id) ∧ W.cell? ⟨w.heap.size, 1, none⟩ = some (.int .i64 p.prio) ∧ W.cell? ⟨w.heap.size, 2, none⟩ = some (.bool p.crit) ∧ W.cell? ⟨w.heap.size, 3, none⟩ = some (.int .i64 p.q0) ∧ W.cell? ⟨w.heap.size, 4, none⟩ = some (.int .i64 p.q1) ∧ W.cell? ⟨w.heap.size, 5, none⟩ = some (.int .i64 p.q2) ∧ W.cell? ⟨w.heap.size, 6, none⟩ = some (.int .i64 p.l0) ∧ W.cell? ⟨w.heap.size, 7, none⟩ = some (.int .i64 p.l1) ∧ W.cell? ⟨w.heap.size, 8, none⟩ = some (.int .i64 p.l2) ∧ W.cell? ⟨w.heap.size, 9, none⟩ = some (.string p.image) ∧ W.cell? ⟨w.heap.size, 10, none⟩ = some (.int .i64 p.size)) ∧ PS p w W)
      (first
        | exact P3.drew.all
        | (refine PS.all (PS.below ?_ hbR); exact And.right (by assumption)))
      (first
        | (go_at_call 12; refine (right_any p _ hp).mono ?_; rintro e w' ⟨rfl, hbR⟩)
        | (go_at_call 13; refine (refRight_any p _ hp).mono ?_; rintro e w' ⟨rfl, hbR⟩)
        | (go_at_call 14; refine (named_any s _ hs2).mono ?_; rintro e w' ⟨rfl, hbR⟩)
        | (go_at_call 15; refine (refNamed_b s _ hs2).mono ?_; rintro e w' ⟨rfl, hbR⟩))
    rename_i hH
    have HP4 := Lib.hid hH.2
    clear hH P3
    have c4 := HP4.out.1.cell
    go_wp2_with fail
    refine (refRight_any p _ hp).mono ?_; rintro e w5 ⟨rfl, hb5⟩
    rw [HR.out]
    have HP5 := Lib.hid (HP4.out.below hb5)
    clear hb5
    go_wp2_with fail
    go_ret
    exact ⟨rfl, HP5.out.2⟩
  · have HR := Lib.hid hrt
    clear hrt
    refine (put_yes p _ hp HR.out).mono ?_; rintro e w3 ⟨A1, k1, rfl, hO3, hb3⟩
    have P3 := PO.mk (HP2.out.below hb3) (hO3.mono HP2.out.size)
    clear hb3 c2 HP2 hO3
    go_wp2_with fail
    go_region_held3 (fun W => (W.cell? ⟨w.heap.size, 0, none⟩ = some (.string p.id) ∧ W.cell? ⟨w.heap.size, 1, none⟩ = some (.int .i64 p.prio) ∧ W.cell? ⟨w.heap.size, 2, none⟩ = some (.bool p.crit) ∧ W.cell? ⟨w.heap.size, 3, none⟩ = some (.int .i64 p.q0) ∧ W.cell? ⟨w.heap.size, 4, none⟩ = some (.int .i64 p.q1) ∧ W.cell? ⟨w.heap.size, 5, none⟩ = some (.int .i64 p.q2) ∧ W.cell? ⟨w.heap.size, 6, none⟩ = some (.int .i64 p.l0) ∧ W.cell? ⟨w.heap.size, 7, none⟩ = some (.int .i64 p.l1) ∧ W.cell? ⟨w.heap.size, 8, none⟩ = some (.int .i64 p.l2) ∧ W.cell? ⟨w.heap.size, 9, none⟩ = some (.string p.image) ∧ W.cell? ⟨w.heap.size, 10, none⟩ = some (.int .i64 p.size)) ∧ PO p w A1 k1 W)
      (first
        | exact P3.drew.all
        | (refine PO.all (PO.below ?_ hbR); exact And.right (by assumption)))
      (first
        | (go_at_call 12; refine (right_any p _ hp).mono ?_; rintro e w' ⟨rfl, hbR⟩)
        | (go_at_call 13; refine (refRight_any p _ hp).mono ?_; rintro e w' ⟨rfl, hbR⟩)
        | (go_at_call 14; refine (named_any s _ hs2).mono ?_; rintro e w' ⟨rfl, hbR⟩)
        | (go_at_call 15; refine (refNamed_b s _ hs2).mono ?_; rintro e w' ⟨rfl, hbR⟩))
    rename_i hH
    have HP4 := Lib.hid hH.2
    clear hH P3
    have c4 := HP4.out.1.1.cell
    go_wp2_with fail
    refine (refRight_any p _ hp).mono ?_; rintro e w5 ⟨rfl, hb5⟩
    rw [HR.out]
    have HP5 := Lib.hid (HP4.out.below hb5)
    clear hb5 c4 HP4
    have c5 := HP5.out.1.1.cell
    go_wp2_with fail
    refine (refPut_any p _ hp HR.out).mono ?_; rintro e w6 ⟨A2, k2, rfl, hO6, hb6⟩
    have HP6 := Lib.hid (And.intro (HP5.out.below hb6) hO6)
    clear hb6 hO6 c5 HP5
    go_wp2_with fail
    refine (same_any A1 A2 p.bytes p.bytes k1 k2 _ HP6.out.1.2.toRds HP6.out.2.toRds).mono ?_; rintro e w7 ⟨rfl, rfl⟩
    rw [beq_self_eq_true]
    go_wp2_with fail
    go_ret
    exact ⟨rfl, HP6.out.1.1.2⟩

/-- the law, of whatever pod and text -/
theorem puts_any (p : Pd) (s : ByteArray) (w : World) (hp : p.Wf) (hs : s.size ≤ 9223372036854775807) :
    Calls Tryd.prog 3 #[.agg p.cells, .string s] w fun e w' => e = .returned (.bool true) ∧ Below w.heap.size w w' := by
  cases hsm : p.small
  · exact puts_great p s w hs (.inl hsm)
  · by_cases h : s.size ≤ 100
    · exact puts_small p s w hp hsm h
    · exact puts_great p s w hs (.inr (by omega))
end Go.Proofs.YtjngkmfkgbcjjaaDoor
