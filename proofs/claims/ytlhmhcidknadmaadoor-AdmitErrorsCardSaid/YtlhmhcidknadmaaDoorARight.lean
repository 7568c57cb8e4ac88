/- bilgeref06.Right, bilgeref07.Right: that they answer; a right config's Allocatable is not below 0. -/
import Derived.Test.YtlhmhcidknadmaaDoorADecide
namespace Go.Proofs.YtlhmhcidknadmaaDoor
open Go.RowKit

abbrev Th.cells (t : Th) : Array Value := #[.int .i64 t.sig, .int .i64 t.pct, .int .i64 t.amt, .bool t.soft, .int .i64 t.grace]
def encT : Enc Th 5 := ⟨fun p => p.cells.toList, fun _ => rfl, fun p u hu => by simp at hu; rcases hu with h | h | h | h | h <;> subst h <;> rfl, by decide⟩
def GivesT (w : World) (e : Ending) (w' : World) : Prop := ∃ v : Bool, e = .returned (.bool v) ∧ Below w.heap.size w w'
set_option maxRecDepth 100000 in
set_option maxHeartbeats 4000000 in
theorem right06_any (t : Th) (w : World) : Calls Tryd.prog 22 #[.agg t.cells] w (GivesT w) := by
  have HB := Lib.hid ((Below.refl w.heap.size w).alloc (Nat.le_refl _) (.cells t.cells 61))
  obtain ⟨x0, x1, x2, x3, x4⟩ := t
  go_enter Tryd.func22, Tryd.ntmps22
  cases x3
  all_goals
    go_wp2_with fail
    all_goals
      go_ret
      exact ⟨_, rfl, HB.out⟩
theorem Rds.th {w : World} {A : Option Addr} {l : List Th} (h : Rds w encT A l) {i : Nat} (hi : i < l.length) : ∃ b off, A = some ⟨b, off, none⟩ ∧ b < w.heap.size ∧
    w.cell? ⟨b, off + i * 5, none⟩ = some (.int .i64 l[i].sig) ∧ w.cell? ⟨b, off + i * 5 + 1, none⟩ = some (.int .i64 l[i].pct) ∧ w.cell? ⟨b, off + i * 5 + 2, none⟩ = some (.int .i64 l[i].amt) ∧ w.cell? ⟨b, off + i * 5 + 3, none⟩ = some (.bool l[i].soft) ∧ w.cell? ⟨b, off + i * 5 + 4, none⟩ = some (.int .i64 l[i].grace) := by
  obtain ⟨b, off, e, hb, hc⟩ := h.at_ hi
  exact ⟨b, off, e, hb, by have := hc 0 (.int .i64 l[i].sig) rfl; simpa using this, hc 1 (.int .i64 l[i].pct) rfl, hc 2 (.int .i64 l[i].amt) rfl, hc 3 (.bool l[i].soft) rfl, hc 4 (.int .i64 l[i].grace) rfl⟩
def Room0 (f : Cf) : Prop := 0 ≤ f.room.a ∧ 0 ≤ f.room.b ∧ 0 ≤ f.room.c
def GivesR7 (f : Cf) (w : World) (e : Ending) (w' : World) : Prop := ∃ v : Bool, e = .returned (.bool v) ∧ (v = true → Room0 f) ∧ Below w.heap.size w w'
set_option maxRecDepth 100000 in
set_option maxHeartbeats 8000000 in
theorem right07_any (f : Cf) (w : World) (hr : Rds w encT f.A f.ts) (hn : f.ts.length ≤ 9223372036854775807) : Calls Tryd.prog 9 #[.agg f.cells] w (GivesR7 f w) := by
  obtain ⟨cap, room, A, ts, nn, per, ret, age, dead⟩ := f
  have HB := Lib.hid (And.intro (Blk.new w 25 #[.int .i64 cap.a, .int .i64 cap.b, .int .i64 cap.c, .int .i64 room.a, .int .i64 room.b, .int .i64 room.c, .slice A ts.length nn, .int .i64 per, .int .i64 ret, .int .i64 age, .int .i64 dead]) ((Below.refl w.heap.size w).alloc (Nat.le_refl _) (.cells (Cf.mk cap room A ts nn per ret age dead).cells 25)))
  have HR := Lib.hid hr
  clear hr
  go_enter Tryd.func9, Tryd.ntmps9
  go_wp2_with fail
  generalize (w.alloc (.cells #[.int .i64 cap.a, .int .i64 cap.b, .int .i64 cap.c, .int .i64 room.a, .int .i64 room.b, .int .i64 room.c, .slice A ts.length nn, .int .i64 per, .int .i64 ret, .int .i64 age, .int .i64 dead] 25)) = w1 at *
  go_loopw [3] (fun ii wr => ∃ i : Nat, i ≤ 3 ∧ ii = .int .i64 i ∧ ((0 < i → 0 ≤ room.a) ∧ (1 < i → 0 ≤ room.b) ∧ (2 < i → 0 ≤ room.c)) ∧ (Blk wr w.heap.size 25 #[.int .i64 cap.a, .int .i64 cap.b, .int .i64 cap.c, .int .i64 room.a, .int .i64 room.b, .int .i64 room.c, .slice A ts.length nn, .int .i64 per, .int .i64 ret, .int .i64 age, .int .i64 dead] ∧ Below w.heap.size w wr)) (fun ii _ => 3 - (intOf ii).toNat)
  case atStart => exact ⟨0, by omega, rfl, ⟨fun h => by omega, fun h => by omega, fun h => by omega⟩, HB.out⟩
  case round =>
    clear HB
    obtain ⟨i, hi, rfl, hno, hbl⟩ := hrel
    have HN := Lib.hid hno
    have HP := Lib.hid hbl
    clear hno hbl
    have ccf := HP.out.1.cell
    obtain rfl | rfl | rfl | rfl : i = 0 ∨ i = 1 ∨ i = 2 ∨ i = 3 := by omega
    · by_cases h1 : cap.a < 1
      · have d1 : decide (cap.a < 1) = true := decide_eq_true h1
        clear h1
        go_wp2_with fail
        go_ret
        exact ⟨false, rfl, fun h => (by cases h), HP.out.2⟩
      · have d1 : decide (cap.a < 1) = false := decide_eq_false h1
        by_cases h2 : room.a < 0
        · have d2 : decide (room.a < 0) = true := decide_eq_true h2
          clear h2
          go_wp2_with fail
          go_ret
          exact ⟨false, rfl, fun h => (by cases h), HP.out.2⟩
        · have d2 : decide (room.a < 0) = false := decide_eq_false h2
          go_wp2_with fail
          go_roundw
          case rel => exact ⟨1, by omega, by rfl, ⟨fun _ => by omega, fun h => by omega, fun h => by omega⟩, HP.out⟩
          case measure => simp [intOf]
    · by_cases h1 : cap.b < 1
      · have d1 : decide (cap.b < 1) = true := decide_eq_true h1
        clear h1
        go_wp2_with fail
        go_ret
        exact ⟨false, rfl, fun h => (by cases h), HP.out.2⟩
      · have d1 : decide (cap.b < 1) = false := decide_eq_false h1
        by_cases h2 : room.b < 0
        · have d2 : decide (room.b < 0) = true := decide_eq_true h2
          clear h2
          go_wp2_with fail
          go_ret
          exact ⟨false, rfl, fun h => (by cases h), HP.out.2⟩
        · have d2 : decide (room.b < 0) = false := decide_eq_false h2
          go_wp2_with fail
          go_roundw
          case rel => exact ⟨2, by omega, by rfl, ⟨fun _ => HN.out.1 (by omega), fun _ => by omega, fun h => by omega⟩, HP.out⟩
          case measure => simp [intOf]
    · by_cases h1 : cap.c < 1
      · have d1 : decide (cap.c < 1) = true := decide_eq_true h1
        clear h1
        go_wp2_with fail
        go_ret
        exact ⟨false, rfl, fun h => (by cases h), HP.out.2⟩
      · have d1 : decide (cap.c < 1) = false := decide_eq_false h1
        by_cases h2 : room.c < 0
        · have d2 : decide (room.c < 0) = true := decide_eq_true h2
          clear h2
          go_wp2_with fail
          go_ret
          exact ⟨false, rfl, fun h => (by cases h), HP.out.2⟩
        · have d2 : decide (room.c < 0) = false := decide_eq_false h2
          go_wp2_with fail
          go_roundw
          case rel => exact ⟨3, by omega, by rfl, ⟨fun _ => HN.out.1 (by omega), fun _ => HN.out.2.1 (by omega), fun _ => by omega⟩, HP.out⟩
          case measure => simp [intOf]
    · have HR0 : Hid (Room0 ⟨cap, room, A, ts, nn, per, ret, age, dead⟩) := ⟨HN.out.1 (by omega), HN.out.2.1 (by omega), HN.out.2.2 (by omega)⟩
      clear HN
      by_cases h1 : cap.a < room.b
      · have d1 : decide (cap.a < room.b) = true := decide_eq_true h1
        clear h1
        go_wp2_with fail
        go_ret
        exact ⟨false, rfl, fun h => (by cases h), HP.out.2⟩
      · have d1 : decide (cap.a < room.b) = false := decide_eq_false h1
        by_cases h2 : cap.c < room.c
        · have d2 : decide (cap.c < room.c) = true := decide_eq_true h2
          clear h2
          go_wp2_with fail
          go_ret
          exact ⟨false, rfl, fun h => (by cases h), HP.out.2⟩
        · have d2 : decide (cap.c < room.c) = false := decide_eq_false h2
          by_cases h3 : (12 : Int) < (ts.length : Int)
          · have d3 : decide ((12 : Int) < (ts.length : Int)) = true := decide_eq_true h3
            clear h3
            go_wp2_with fail
            go_ret
            exact ⟨false, rfl, fun h => (by cases h), HP.out.2⟩
          · have d3 : decide ((12 : Int) < (ts.length : Int)) = false := decide_eq_false h3
            have dn : decide (12 < ts.length) = false := decide_eq_false (by omega)
            clear h1 h2
            go_wp2_with fail
            go_loopw [2, 4] (fun rr ii wr => ∃ i : Nat, i ≤ ts.length ∧ ii = .int .i64 i ∧ (Blk wr w.heap.size 25 #[.int .i64 cap.a, .int .i64 cap.b, .int .i64 cap.c, .int .i64 room.a, .int .i64 room.b, .int .i64 room.c, .slice A ts.length nn, .int .i64 per, .int .i64 ret, .int .i64 age, .int .i64 dead] ∧ Below w.heap.size w wr)) (fun _ ii _ => ts.length - (intOf ii).toNat)
            case atStart => exact ⟨0, by omega, rfl, HP.out⟩
            case round =>
              clear HP
              obtain ⟨i, hi, rfl, hbl⟩ := hrel
              have HP := Lib.hid hbl
              clear hbl ccf
              have ccf := HP.out.1.cell
              by_cases hlt : i < ts.length
              · have dk : decide ((i : Int) < (ts.length : Int)) = true := decide_eq_true (by omega)
                have dk2 : (i : Int) < (ts.length : Int) := by omega
                obtain ⟨b, off, hA, _, y0, y1, y2, y3, y4⟩ := (HR.out.below HP.out.2).th hlt
                obtain rfl : A = some ⟨b, off, none⟩ := hA
                generalize ts[i] = t at *
                go_wp2_with fail
                refine (right06_any t _).mono ?_; rintro e w3 ⟨v, rfl, hb⟩
                have HP := Lib.hid (And.intro (HP.out.1.belowAll hb) (below_rV HP.out.2 hb))
                clear hb ccf y0 y1 y2 y3 y4
                cases v
                · go_wp2_with fail
                  go_ret
                  exact ⟨false, rfl, fun h => (by cases h), HP.out.2⟩
                · go_wp2_with fail
                  go_roundw
                  case rel => exact ⟨i + 1, by omega, by go_num, HP.out⟩
                  case measure => simp [intOf]; omega
              · obtain rfl : i = ts.length := by omega
                have dk : decide ((ts.length : Int) < (ts.length : Int)) = false := by simp
                by_cases h0 : 1 ≤ per
                rotate_left
                · have e0 : decide (1 ≤ per) = false := decide_eq_false h0
                  clear h0
                  go_wp2_with fail
                  go_ret
                  exact ⟨false, rfl, fun h => (by cases h), HP.out.2⟩
                · have e0 : decide (1 ≤ per) = true := decide_eq_true h0
                  clear h0
                  by_cases h1 : per ≤ 1000
                  rotate_left
                  · have e1 : decide (per ≤ 1000) = false := decide_eq_false h1
                    clear h1
                    go_wp2_with fail
                    go_ret
                    exact ⟨false, rfl, fun h => (by cases h), HP.out.2⟩
                  · have e1 : decide (per ≤ 1000) = true := decide_eq_true h1
                    clear h1
                    by_cases h2 : 1 ≤ age
                    rotate_left
                    · have e2 : decide (1 ≤ age) = false := decide_eq_false h2
                      clear h2
                      go_wp2_with fail
                      go_ret
                      exact ⟨false, rfl, fun h => (by cases h), HP.out.2⟩
                    · have e2 : decide (1 ≤ age) = true := decide_eq_true h2
                      clear h2
                      by_cases h3 : age ≤ 1000
                      rotate_left
                      · have e3 : decide (age ≤ 1000) = false := decide_eq_false h3
                        clear h3
                        go_wp2_with fail
                        go_ret
                        exact ⟨false, rfl, fun h => (by cases h), HP.out.2⟩
                      · have e3 : decide (age ≤ 1000) = true := decide_eq_true h3
                        clear h3
                        by_cases h4 : 0 ≤ ret
                        rotate_left
                        · have e4 : decide (0 ≤ ret) = false := decide_eq_false h4
                          clear h4
                          go_wp2_with fail
                          go_ret
                          exact ⟨false, rfl, fun h => (by cases h), HP.out.2⟩
                        · have e4 : decide (0 ≤ ret) = true := decide_eq_true h4
                          clear h4
                          by_cases h5 : ret ≤ 20
                          rotate_left
                          · have e5 : decide (ret ≤ 20) = false := decide_eq_false h5
                            clear h5
                            go_wp2_with fail
                            go_ret
                            exact ⟨false, rfl, fun h => (by cases h), HP.out.2⟩
                          · have e5 : decide (ret ≤ 20) = true := decide_eq_true h5
                            clear h5
                            by_cases h6 : 0 ≤ dead
                            rotate_left
                            · have e6 : decide (0 ≤ dead) = false := decide_eq_false h6
                              clear h6
                              go_wp2_with fail
                              go_ret
                              exact ⟨false, rfl, fun h => (by cases h), HP.out.2⟩
                            · have e6 : decide (0 ≤ dead) = true := decide_eq_true h6
                              clear h6
                              obtain ⟨b8, hb8⟩ : ∃ v, decide (dead ≤ 100) = v := ⟨_, rfl⟩
                              go_wp2_with fail
                              go_ret
                              exact ⟨_, rfl, fun _ => HR0.out, HP.out.2⟩
end Go.Proofs.YtlhmhcidknadmaaDoor
