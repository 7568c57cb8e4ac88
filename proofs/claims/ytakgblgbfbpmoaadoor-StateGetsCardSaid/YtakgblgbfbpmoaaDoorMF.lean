/- Several texts in one: bilgeref06.Right, bilgeref07.Right: that they answer; a right config's Allocatable is not below 0. bilgeref21.Exact: the exact sums; a sum that stops at the greatest number fits just if the exact one does. bilgeref23.Pods, bilgeref23.Within: the pods of a table; whether their exact sums are within a room. -/
import Derived.Laws.Bits64
import Derived.Test.YtakgblgbfbpmoaaDoorME
import Derived.Test.YtakgblgbfbpmoaaDoorMD
namespace Go.Proofs.YtakgblgbfbpmoaaDoor
open Go.RowKit

abbrev Th.cells (t : Th) : Array Value := #[.int .i64 t.sig, .int .i64 t.pct, .int .i64 t.amt, .bool t.soft, .int .i64 t.grace]
def encT : Enc Th 5 := ⟨fun p => p.cells.toList, fun _ => rfl, fun p u hu => by simp at hu; rcases hu with h | h | h | h | h <;> subst h <;> rfl, by decide⟩
def GivesT (w : World) (e : Ending) (w' : World) : Prop := ∃ v : Bool, e = .returned (.bool v) ∧ Below w.heap.size w w'
set_option maxRecDepth 100000 in
set_option maxHeartbeats 4000000 in
theorem right06_any (t : Th) (w : World) : Calls Tryd.prog 44 #[.agg t.cells] w (GivesT w) := by
  have HB := Lib.hid ((Below.refl w.heap.size w).alloc (Nat.le_refl _) (.cells t.cells 80))
  obtain ⟨x0, x1, x2, x3, x4⟩ := t
  go_enter Tryd.func44, Tryd.ntmps44
  cases x3
  all_goals
    go_wp2_with fail
    all_goals
      go_ret
      exact ⟨_, rfl, HB.out⟩
theorem Rds.th {w : World} {A : Option Addr} {l : List Th} (h : Rds w encT A l) {i : Nat} (hi : i < l.length) : ∃ b off, A = some ⟨b, off, none⟩ ∧ b < w.heap.size ∧
    w.cell? ⟨b, off + i * 5, none⟩ = some (.int .i64 l[i].sig) ∧ w.cell? ⟨b, off + i * 5 + 1, none⟩ = some (.int .i64 l[i].pct) ∧ w.cell? ⟨b, off + i * 5 + 2, none⟩ = some (.int .i64 l[i].amt) ∧ w.cell? ⟨b, off + i * 5 + 3, none⟩ = some (.bool l[i].soft) ∧ w.cell? ⟨b, off + i * 5 + 4, none⟩ = some (.int .i64 l[i].grace) := by
  obtain ⟨b, off, e, hb, hc⟩ := h.at_ hi
  exact ⟨b, off, e, hb, by have := hc 0 (.int .i64 l[i].sig) rfl; simpa using this, hc 1 (.int .i64 l[i].pct) rfl, hc 2 (.int .i64 l[i].amt) rfl, hc 3 (.bool l[i].soft) rfl, hc 4 (.int .i64 l[i].grace) rfl⟩
def Room0 (f : Cf) : Prop := 0 ≤ f.room.a ∧ 0 ≤ f.room.b ∧ 0 ≤ f.room.c
def GivesR7 (f : Cf) (w : World) (e : Ending) (w' : World) : Prop := ∃ v : Bool, e = .returned (.bool v) ∧ (v = true → Room0 f) ∧ Below w.heap.size w w'
set_option maxRecDepth 100000 in
set_option maxHeartbeats 8000000 in
theorem right07_any (f : Cf) (w : World) (hr : Rds w encT f.A f.ts) (hn : f.ts.length ≤ 9223372036854775807) : Calls Tryd.prog 29 #[.agg f.cells] w (GivesR7 f w) := by
  obtain ⟨cap, room, A, ts, nn, per, ret, age, dead⟩ := f
  have HB := Lib.hid (And.intro (Blk.new w 57 #[.int .i64 cap.a, .int .i64 cap.b, .int .i64 cap.c, .int .i64 room.a, .int .i64 room.b, .int .i64 room.c, .slice A ts.length nn, .int .i64 per, .int .i64 ret, .int .i64 age, .int .i64 dead]) ((Below.refl w.heap.size w).alloc (Nat.le_refl _) (.cells (Cf.mk cap room A ts nn per ret age dead).cells 57)))
  have HR := Lib.hid hr
  clear hr
  go_enter Tryd.func29, Tryd.ntmps29
  go_wp2_with fail
  generalize (w.alloc (.cells #[.int .i64 cap.a, .int .i64 cap.b, .int .i64 cap.c, .int .i64 room.a, .int .i64 room.b, .int .i64 room.c, .slice A ts.length nn, .int .i64 per, .int .i64 ret, .int .i64 age, .int .i64 dead] 57)) = w1 at *
  go_loopw [3] (fun ii wr => ∃ i : Nat, i ≤ 3 ∧ ii = .int .i64 i ∧ ((0 < i → 0 ≤ room.a) ∧ (1 < i → 0 ≤ room.b) ∧ (2 < i → 0 ≤ room.c)) ∧ (Blk wr w.heap.size 57 #[.int .i64 cap.a, .int .i64 cap.b, .int .i64 cap.c, .int .i64 room.a, .int .i64 room.b, .int .i64 room.c, .slice A ts.length nn, .int .i64 per, .int .i64 ret, .int .i64 age, .int .i64 dead] ∧ Below w.heap.size w wr)) (fun ii _ => 3 - (intOf ii).toNat)
  case atStart => exact ⟨0, by omega, rfl, ⟨fun h => by omega, fun h => by omega, fun h => by omega⟩, HB.out⟩
  case round =>
    clear HB
    obtain ⟨i, hi, rfl, hno, hbl⟩ := hrel
    have HN := Lib.hid hno
    have HP := Lib.hid hbl
    clear hno hbl
    have ccf := HP.out.1.cell
    obtain rfl | rfl | rfl | rfl : i = 0 ∨ i = 1 ∨ i = 2 ∨ i = 3 := by omega
    · by_cases h1 : cap.a < 1
      · have d1 : decide (cap.a < 1) = true := decide_eq_true h1
        clear h1
        go_wp2_with fail
        go_ret
        exact ⟨false, rfl, fun h => (by cases h), HP.out.2⟩
      · have d1 : decide (cap.a < 1) = false := decide_eq_false h1
        by_cases h2 : room.a < 0
        · have d2 : decide (room.a < 0) = true := decide_eq_true h2
          clear h2
          go_wp2_with fail
          go_ret
          exact ⟨false, rfl, fun h => (by cases h), HP.out.2⟩
        · have d2 : decide (room.a < 0) = false := decide_eq_false h2
          go_wp2_with fail
          go_roundw
          case rel => exact ⟨1, by omega, by rfl, ⟨fun _ => by omega, fun h => by omega, fun h => by omega⟩, HP.out⟩
          case measure => simp [intOf]
    · by_cases h1 : cap.b < 1
      · have d1 : decide (cap.b < 1) = true := decide_eq_true h1
        clear h1
        go_wp2_with fail
        go_ret
        exact ⟨false, rfl, fun h => (by cases h), HP.out.2⟩
      · have d1 : decide (cap.b < 1) = false := decide_eq_false h1
        by_cases h2 : room.b < 0
        · have d2 : decide (room.b < 0) = true := decide_eq_true h2
          clear h2
          go_wp2_with fail
          go_ret
          exact ⟨false, rfl, fun h => (by cases h), HP.out.2⟩
        · have d2 : decide (room.b < 0) = false := decide_eq_false h2
          go_wp2_with fail
          go_roundw
          case rel => exact ⟨2, by omega, by rfl, ⟨fun _ => HN.out.1 (by omega), fun _ => by omega, fun h => by omega⟩, HP.out⟩
          case measure => simp [intOf]
    · by_cases h1 : cap.c < 1
      · have d1 : decide (cap.c < 1) = true := decide_eq_true h1
        clear h1
        go_wp2_with fail
        go_ret
        exact ⟨false, rfl, fun h => (by cases h), HP.out.2⟩
      · have d1 : decide (cap.c < 1) = false := decide_eq_false h1
        by_cases h2 : room.c < 0
        · have d2 : decide (room.c < 0) = true := decide_eq_true h2
          clear h2
          go_wp2_with fail
          go_ret
          exact ⟨false, rfl, fun h => (by cases h), HP.out.2⟩
        · have d2 : decide (room.c < 0) = false := decide_eq_false h2
          go_wp2_with fail
          go_roundw
          case rel => exact ⟨3, by omega, by rfl, ⟨fun _ => HN.out.1 (by omega), fun _ => HN.out.2.1 (by omega), fun _ => by omega⟩, HP.out⟩
          case measure => simp [intOf]
    · have HR0 : Hid (Room0 ⟨cap, room, A, ts, nn, per, ret, age, dead⟩) := ⟨HN.out.1 (by omega), HN.out.2.1 (by omega), HN.out.2.2 (by omega)⟩
      clear HN
      by_cases h1 : cap.a < room.b
      · have d1 : decide (cap.a < room.b) = true := decide_eq_true h1
        clear h1
        go_wp2_with fail
        go_ret
        exact ⟨false, rfl, fun h => (by cases h), HP.out.2⟩
      · have d1 : decide (cap.a < room.b) = false := decide_eq_false h1
        by_cases h2 : cap.c < room.c
        · have d2 : decide (cap.c < room.c) = true := decide_eq_true h2
          clear h2
          go_wp2_with fail
          go_ret
          exact ⟨false, rfl, fun h => (by cases h), HP.out.2⟩
        · have d2 : decide (cap.c < room.c) = false := decide_eq_false h2
          by_cases h3 : (12 : Int) < (ts.length : Int)
          · have d3 : decide ((12 : Int) < (ts.length : Int)) = true := decide_eq_true h3
            clear h3
            go_wp2_with fail
            go_ret
            exact ⟨false, rfl, fun h => (by cases h), HP.out.2⟩
          · have d3 : decide ((12 : Int) < (ts.length : Int)) = false := decide_eq_false h3
            have dn : decide (12 < ts.length) = false := decide_eq_false (by omega)
            clear h1 h2
            go_wp2_with fail
            go_loopw [2, 4] (fun rr ii wr => ∃ i : Nat, i ≤ ts.length ∧ ii = .int .i64 i ∧ (Blk wr w.heap.size 57 #[.int .i64 cap.a, .int .i64 cap.b, .int .i64 cap.c, .int .i64 room.a, .int .i64 room.b, .int .i64 room.c, .slice A ts.length nn, .int .i64 per, .int .i64 ret, .int .i64 age, .int .i64 dead] ∧ Below w.heap.size w wr)) (fun _ ii _ => ts.length - (intOf ii).toNat)
            case atStart => exact ⟨0, by omega, rfl, HP.out⟩
            case round =>
              clear HP
              obtain ⟨i, hi, rfl, hbl⟩ := hrel
              have HP := Lib.hid hbl
              clear hbl ccf
              have ccf := HP.out.1.cell
              by_cases hlt : i < ts.length
              · have dk : decide ((i : Int) < (ts.length : Int)) = true := decide_eq_true (by omega)
                have dk2 : (i : Int) < (ts.length : Int) := by omega
                obtain ⟨b, off, hA, _, y0, y1, y2, y3, y4⟩ := (HR.out.below HP.out.2).th hlt
                obtain rfl : A = some ⟨b, off, none⟩ := hA
                generalize ts[i] = t at *
                go_wp2_with fail
                refine (right06_any t _).mono ?_; rintro e w3 ⟨v, rfl, hb⟩
                have HP := Lib.hid (And.intro (HP.out.1.belowAll hb) (below_rV HP.out.2 hb))
                clear hb ccf y0 y1 y2 y3 y4
                cases v
                · go_wp2_with fail
                  go_ret
                  exact ⟨false, rfl, fun h => (by cases h), HP.out.2⟩
                · go_wp2_with fail
                  go_roundw
                  case rel => exact ⟨i + 1, by omega, by go_num, HP.out⟩
                  case measure => simp [intOf]; omega
              · obtain rfl : i = ts.length := by omega
                have dk : decide ((ts.length : Int) < (ts.length : Int)) = false := by simp
                by_cases h0 : 1 ≤ per
                rotate_left
                · have e0 : decide (1 ≤ per) = false := decide_eq_false h0
                  clear h0
                  go_wp2_with fail
                  go_ret
                  exact ⟨false, rfl, fun h => (by cases h), HP.out.2⟩
                · have e0 : decide (1 ≤ per) = true := decide_eq_true h0
                  clear h0
                  by_cases h1 : per ≤ 1000
                  rotate_left
                  · have e1 : decide (per ≤ 1000) = false := decide_eq_false h1
                    clear h1
                    go_wp2_with fail
                    go_ret
                    exact ⟨false, rfl, fun h => (by cases h), HP.out.2⟩
                  · have e1 : decide (per ≤ 1000) = true := decide_eq_true h1
                    clear h1
                    by_cases h2 : 1 ≤ age
                    rotate_left
                    · have e2 : decide (1 ≤ age) = false := decide_eq_false h2
                      clear h2
                      go_wp2_with fail
                      go_ret
                      exact ⟨false, rfl, fun h => (by cases h), HP.out.2⟩
                    · have e2 : decide (1 ≤ age) = true := decide_eq_true h2
                      clear h2
                      by_cases h3 : age ≤ 1000
                      rotate_left
                      · have e3 : decide (age ≤ 1000) = false := decide_eq_false h3
                        clear h3
                        go_wp2_with fail
                        go_ret
                        exact ⟨false, rfl, fun h => (by cases h), HP.out.2⟩
                      · have e3 : decide (age ≤ 1000) = true := decide_eq_true h3
                        clear h3
                        by_cases h4 : 0 ≤ ret
                        rotate_left
                        · have e4 : decide (0 ≤ ret) = false := decide_eq_false h4
                          clear h4
                          go_wp2_with fail
                          go_ret
                          exact ⟨false, rfl, fun h => (by cases h), HP.out.2⟩
                        · have e4 : decide (0 ≤ ret) = true := decide_eq_true h4
                          clear h4
                          by_cases h5 : ret ≤ 20
                          rotate_left
                          · have e5 : decide (ret ≤ 20) = false := decide_eq_false h5
                            clear h5
                            go_wp2_with fail
                            go_ret
                            exact ⟨false, rfl, fun h => (by cases h), HP.out.2⟩
                          · have e5 : decide (ret ≤ 20) = true := decide_eq_true h5
                            clear h5
                            by_cases h6 : 0 ≤ dead
                            rotate_left
                            · have e6 : decide (0 ≤ dead) = false := decide_eq_false h6
                              clear h6
                              go_wp2_with fail
                              go_ret
                              exact ⟨false, rfl, fun h => (by cases h), HP.out.2⟩
                            · have e6 : decide (0 ≤ dead) = true := decide_eq_true h6
                              clear h6
                              obtain ⟨b8, hb8⟩ : ∃ v, decide (dead ≤ 100) = v := ⟨_, rfl⟩
                              go_wp2_with fail
                              go_ret
                              exact ⟨_, rfl, fun _ => HR0.out, HP.out.2⟩
end Go.Proofs.YtakgblgbfbpmoaaDoor

namespace Go.Proofs.YtakgblgbfbpmoaaDoor
open Go.RowKit

def mn (t : Int) : Int := if t ≤ most then t else most
theorem satAdd_mn (t q : Int) (ht : 0 ≤ t) (hq : 0 ≤ q) : satAdd (mn t) q = mn (t + q) := by
  unfold satAdd nat0 mn most
  repeat' split
  all_goals omega
theorem fit1_mn (r t : Int) (ht : 0 ≤ t) : fit1 r (mn t) = decide (t < most ∧ t ≤ r) := by
  unfold fit1 mn
  rw [Bool.eq_iff_iff]
  unfold most
  simp only [Bool.and_eq_true, Bool.not_eq_true', beq_eq_false_iff_ne, decide_eq_false_iff_not, decide_eq_true_eq]
  split <;> omega
def ex0 (t : Int) (l : List Pd) : Int := l.foldl (fun s p => s + p.q0) t
theorem ex0_snoc (l : List Pd) (k : Nat) (h : k < l.length) : ex0 0 (l.take (k + 1)) = ex0 0 (l.take k) + l[k].q0 := by
  unfold ex0
  rw [List.take_succ_eq_append_getElem h, List.foldl_append]
  rfl
theorem ex0_nonneg (l : List Pd) : ∀ t : Int, 0 ≤ t → (∀ x ∈ l, 0 ≤ x.q0) → 0 ≤ ex0 t l := by
  induction l with
  | nil => intro t h _; exact h
  | cons p l ih =>
    intro t h hq
    have := hq p (by simp)
    exact ih (t + p.q0) (by omega) fun x hx => hq x (by simp [hx])
def ex1 (t : Int) (l : List Pd) : Int := l.foldl (fun s p => s + p.q1) t
theorem ex1_snoc (l : List Pd) (k : Nat) (h : k < l.length) : ex1 0 (l.take (k + 1)) = ex1 0 (l.take k) + l[k].q1 := by
  unfold ex1
  rw [List.take_succ_eq_append_getElem h, List.foldl_append]
  rfl
theorem ex1_nonneg (l : List Pd) : ∀ t : Int, 0 ≤ t → (∀ x ∈ l, 0 ≤ x.q1) → 0 ≤ ex1 t l := by
  induction l with
  | nil => intro t h _; exact h
  | cons p l ih =>
    intro t h hq
    have := hq p (by simp)
    exact ih (t + p.q1) (by omega) fun x hx => hq x (by simp [hx])
def ex2 (t : Int) (l : List Pd) : Int := l.foldl (fun s p => s + p.q2) t
theorem ex2_snoc (l : List Pd) (k : Nat) (h : k < l.length) : ex2 0 (l.take (k + 1)) = ex2 0 (l.take k) + l[k].q2 := by
  unfold ex2
  rw [List.take_succ_eq_append_getElem h, List.foldl_append]
  rfl
theorem ex2_nonneg (l : List Pd) : ∀ t : Int, 0 ≤ t → (∀ x ∈ l, 0 ≤ x.q2) → 0 ≤ ex2 t l := by
  induction l with
  | nil => intro t h _; exact h
  | cons p l ih =>
    intro t h hq
    have := hq p (by simp)
    exact ih (t + p.q2) (by omega) fun x hx => hq x (by simp [hx])
theorem fold_mn (l : List Pd) : ∀ (t0 t1 t2 : Int), 0 ≤ t0 → 0 ≤ t1 → 0 ≤ t2 → (∀ x ∈ l, 0 ≤ x.q0 ∧ 0 ≤ x.q1 ∧ 0 ≤ x.q2) → l.foldl S3.add ⟨mn t0, mn t1, mn t2⟩ = ⟨mn (ex0 t0 l), mn (ex1 t1 l), mn (ex2 t2 l)⟩ := by
  induction l with
  | nil => intro t0 t1 t2 _ _ _ _; rfl
  | cons p l ih =>
    intro t0 t1 t2 h0 h1 h2 hq
    obtain ⟨q0, q1, q2⟩ := hq p (by simp)
    have e : S3.add ⟨mn t0, mn t1, mn t2⟩ p = ⟨mn (t0 + p.q0), mn (t1 + p.q1), mn (t2 + p.q2)⟩ := by
      unfold S3.add
      rw [satAdd_mn _ _ h0 q0, satAdd_mn _ _ h1 q1, satAdd_mn _ _ h2 q2]
    rw [List.foldl_cons, e, ih _ _ _ (by omega) (by omega) (by omega) fun x hx => hq x (by simp [hx])]
    rfl
theorem fitsB_exact (room : S3) (l : List Pd) (hq : ∀ x ∈ l, 0 ≤ x.q0 ∧ 0 ≤ x.q1 ∧ 0 ≤ x.q2) : fitsB room l = (decide (ex0 0 l < most ∧ ex0 0 l ≤ room.a) && (decide (ex1 0 l < most ∧ ex1 0 l ≤ room.b) && decide (ex2 0 l < most ∧ ex2 0 l ≤ room.c))) := by
  unfold fitsB S3.fits sumsOf
  have h := fold_mn l 0 0 0 (by omega) (by omega) (by omega) hq
  rw [show (⟨mn 0, mn 0, mn 0⟩ : S3) = ⟨0, 0, 0⟩ from rfl] at h
  rw [h, fit1_mn _ _ (ex0_nonneg l 0 (by omega) fun x hx => (hq x hx).1), fit1_mn _ _ (ex1_nonneg l 0 (by omega) fun x hx => (hq x hx).2.1), fit1_mn _ _ (ex2_nonneg l 0 (by omega) fun x hx => (hq x hx).2.2)]
def GivesX (S : Int) (w : World) (e : Ending) (w' : World) : Prop := ∃ H N : Int, e = .returned (.tuple #[.int .u64 H, .int .u64 N]) ∧ H * 18446744073709551616 + N = S ∧ 0 ≤ H ∧ 0 ≤ N ∧ N < 18446744073709551616 ∧ w = w'
set_option maxRecDepth 100000 in
set_option maxHeartbeats 8000000 in
theorem exact0_any (l : List Pd) (A : Option Addr) (c : Nat) (w : World) (hr : Rds w encP A l) (hl : l.length ≤ 64) (hq : ∀ x ∈ l, 0 ≤ x.q0 ∧ x.q0 ≤ 9223372036854775807) :
    Calls Tryd.prog 46 #[.slice A l.length c, .int .i64 0] w (GivesX (ex0 0 l) w) := by
  have HR := Lib.hid hr
  have HQ := Lib.hid hq
  clear hr hq
  go_enter Tryd.func46, Tryd.ntmps46
  go_wp2_with fail
  go_loopw [6, 7, 8, 9] (fun hh nn ii xx wr => ∃ (i : Nat) (H N : Int), i ≤ l.length ∧ ii = .int .i64 i ∧ hh = .int .u64 H ∧ nn = .int .u64 N ∧ H * 18446744073709551616 + N = ex0 0 (l.take i) ∧ 0 ≤ H ∧ H ≤ i ∧ 0 ≤ N ∧ N < 18446744073709551616 ∧ wr = w) (fun _ _ ii _ _ => l.length - (intOf ii).toNat)
  case atStart => exact ⟨0, 0, 0, by omega, rfl, rfl, rfl, rfl, by omega, by omega, by omega, by omega, rfl⟩
  case round =>
    obtain ⟨i, H, N, hi, rfl, rfl, rfl, hs, hH0, hHi, hN0, hN1, rfl⟩ := hrel
    have HS := Lib.hid hs
    clear hs
    by_cases hlt : i < l.length
    · have dk : decide ((i : Int) < (l.length : Int)) = true := decide_eq_true (by omega)
      have dk2 : (i : Int) < (l.length : Int) := by omega
      obtain ⟨b, off, hA⟩ := HR.out.some_ hlt
      obtain rfl : A = some ⟨b, off, none⟩ := hA
      have HSN := Lib.hid (ex0_snoc l i hlt)
      obtain ⟨h0, h1⟩ := HQ.out _ (List.getElem_mem hlt)
      obtain ⟨x0, x1, x2, x3, x4, x5, x6, x7, x8, x9, x10⟩ := HR.out.pdAt (Below.refl _ _) (List.getElem?_eq_getElem hlt)
      clear x0 x1 x2 x4 x5 x6 x7 x8 x9 x10
      generalize l[i] = x at *
      obtain ⟨q, hqq⟩ : ∃ q, x.q0 = q := ⟨_, rfl⟩
      rw [hqq] at h0 h1 x3 HSN
      clear hqq
      have hwq : IntKind.u64.wrap q = q := by rw [IntKind.wrap_u64]; omega
      by_cases hc : N + q < 18446744073709551616
      · have hwn : IntKind.u64.wrap (N + q) = N + q := by rw [IntKind.wrap_u64]; omega
        have dn : decide (N + q < q) = false := decide_eq_false (by omega)
        have HN := Lib.hid (show H * 18446744073709551616 + (N + q) = ex0 0 (l.take (i + 1)) by rw [HSN.out, ← HS.out]; omega)
        go_wp2_with fail
        go_roundw
        case rel => exact ⟨i + 1, H, N + q, by omega, by go_num, rfl, rfl, HN.out, hH0, by omega, by omega, hc, by first | rfl | trivial⟩
        case measure => simp [intOf]; omega
      · have hwn : IntKind.u64.wrap (N + q) = N + q - 18446744073709551616 := by rw [IntKind.wrap_u64]; omega
        have dn : decide (N + q - 18446744073709551616 < q) = true := decide_eq_true (by omega)
        have hwh : IntKind.u64.wrap (H + 1) = H + 1 := by rw [IntKind.wrap_u64]; omega
        have HN := Lib.hid (show (H + 1) * 18446744073709551616 + (N + q - 18446744073709551616) = ex0 0 (l.take (i + 1)) by rw [HSN.out, ← HS.out]; omega)
        go_wp2_with fail
        go_roundw
        case rel => exact ⟨i + 1, H + 1, N + q - 18446744073709551616, by omega, by go_num, rfl, rfl, HN.out, by omega, by omega, by omega, by omega, by first | rfl | trivial⟩
        case measure => simp [intOf]; omega
    · obtain rfl : i = l.length := by omega
      have dk : decide ((l.length : Int) < (l.length : Int)) = false := by simp
      rw [List.take_length] at HS
      go_wp2_with fail
      go_ret2
      exact ⟨H, N, rfl, HS.out, hH0, hN0, hN1, rfl⟩
set_option maxRecDepth 100000 in
set_option maxHeartbeats 8000000 in
theorem exact1_any (l : List Pd) (A : Option Addr) (c : Nat) (w : World) (hr : Rds w encP A l) (hl : l.length ≤ 64) (hq : ∀ x ∈ l, 0 ≤ x.q1 ∧ x.q1 ≤ 9223372036854775807) :
    Calls Tryd.prog 46 #[.slice A l.length c, .int .i64 1] w (GivesX (ex1 0 l) w) := by
  have HR := Lib.hid hr
  have HQ := Lib.hid hq
  clear hr hq
  go_enter Tryd.func46, Tryd.ntmps46
  go_wp2_with fail
  go_loopw [6, 7, 8, 9] (fun hh nn ii xx wr => ∃ (i : Nat) (H N : Int), i ≤ l.length ∧ ii = .int .i64 i ∧ hh = .int .u64 H ∧ nn = .int .u64 N ∧ H * 18446744073709551616 + N = ex1 0 (l.take i) ∧ 0 ≤ H ∧ H ≤ i ∧ 0 ≤ N ∧ N < 18446744073709551616 ∧ wr = w) (fun _ _ ii _ _ => l.length - (intOf ii).toNat)
  case atStart => exact ⟨0, 0, 0, by omega, rfl, rfl, rfl, rfl, by omega, by omega, by omega, by omega, rfl⟩
  case round =>
    obtain ⟨i, H, N, hi, rfl, rfl, rfl, hs, hH0, hHi, hN0, hN1, rfl⟩ := hrel
    have HS := Lib.hid hs
    clear hs
    by_cases hlt : i < l.length
    · have dk : decide ((i : Int) < (l.length : Int)) = true := decide_eq_true (by omega)
      have dk2 : (i : Int) < (l.length : Int) := by omega
      obtain ⟨b, off, hA⟩ := HR.out.some_ hlt
      obtain rfl : A = some ⟨b, off, none⟩ := hA
      have HSN := Lib.hid (ex1_snoc l i hlt)
      obtain ⟨h0, h1⟩ := HQ.out _ (List.getElem_mem hlt)
      obtain ⟨x0, x1, x2, x3, x4, x5, x6, x7, x8, x9, x10⟩ := HR.out.pdAt (Below.refl _ _) (List.getElem?_eq_getElem hlt)
      clear x0 x1 x2 x3 x5 x6 x7 x8 x9 x10
      generalize l[i] = x at *
      obtain ⟨q, hqq⟩ : ∃ q, x.q1 = q := ⟨_, rfl⟩
      rw [hqq] at h0 h1 x4 HSN
      clear hqq
      have hwq : IntKind.u64.wrap q = q := by rw [IntKind.wrap_u64]; omega
      by_cases hc : N + q < 18446744073709551616
      · have hwn : IntKind.u64.wrap (N + q) = N + q := by rw [IntKind.wrap_u64]; omega
        have dn : decide (N + q < q) = false := decide_eq_false (by omega)
        have HN := Lib.hid (show H * 18446744073709551616 + (N + q) = ex1 0 (l.take (i + 1)) by rw [HSN.out, ← HS.out]; omega)
        go_wp2_with fail
        go_roundw
        case rel => exact ⟨i + 1, H, N + q, by omega, by go_num, rfl, rfl, HN.out, hH0, by omega, by omega, hc, by first | rfl | trivial⟩
        case measure => simp [intOf]; omega
      · have hwn : IntKind.u64.wrap (N + q) = N + q - 18446744073709551616 := by rw [IntKind.wrap_u64]; omega
        have dn : decide (N + q - 18446744073709551616 < q) = true := decide_eq_true (by omega)
        have hwh : IntKind.u64.wrap (H + 1) = H + 1 := by rw [IntKind.wrap_u64]; omega
        have HN := Lib.hid (show (H + 1) * 18446744073709551616 + (N + q - 18446744073709551616) = ex1 0 (l.take (i + 1)) by rw [HSN.out, ← HS.out]; omega)
        go_wp2_with fail
        go_roundw
        case rel => exact ⟨i + 1, H + 1, N + q - 18446744073709551616, by omega, by go_num, rfl, rfl, HN.out, by omega, by omega, by omega, by omega, by first | rfl | trivial⟩
        case measure => simp [intOf]; omega
    · obtain rfl : i = l.length := by omega
      have dk : decide ((l.length : Int) < (l.length : Int)) = false := by simp
      rw [List.take_length] at HS
      go_wp2_with fail
      go_ret2
      exact ⟨H, N, rfl, HS.out, hH0, hN0, hN1, rfl⟩
set_option maxRecDepth 100000 in
set_option maxHeartbeats 8000000 in
theorem exact2_any (l : List Pd) (A : Option Addr) (c : Nat) (w : World) (hr : Rds w encP A l) (hl : l.length ≤ 64) (hq : ∀ x ∈ l, 0 ≤ x.q2 ∧ x.q2 ≤ 9223372036854775807) :
    Calls Tryd.prog 46 #[.slice A l.length c, .int .i64 2] w (GivesX (ex2 0 l) w) := by
  have HR := Lib.hid hr
  have HQ := Lib.hid hq
  clear hr hq
  go_enter Tryd.func46, Tryd.ntmps46
  go_wp2_with fail
  go_loopw [6, 7, 8, 9] (fun hh nn ii xx wr => ∃ (i : Nat) (H N : Int), i ≤ l.length ∧ ii = .int .i64 i ∧ hh = .int .u64 H ∧ nn = .int .u64 N ∧ H * 18446744073709551616 + N = ex2 0 (l.take i) ∧ 0 ≤ H ∧ H ≤ i ∧ 0 ≤ N ∧ N < 18446744073709551616 ∧ wr = w) (fun _ _ ii _ _ => l.length - (intOf ii).toNat)
  case atStart => exact ⟨0, 0, 0, by omega, rfl, rfl, rfl, rfl, by omega, by omega, by omega, by omega, rfl⟩
  case round =>
    obtain ⟨i, H, N, hi, rfl, rfl, rfl, hs, hH0, hHi, hN0, hN1, rfl⟩ := hrel
    have HS := Lib.hid hs
    clear hs
    by_cases hlt : i < l.length
    · have dk : decide ((i : Int) < (l.length : Int)) = true := decide_eq_true (by omega)
      have dk2 : (i : Int) < (l.length : Int) := by omega
      obtain ⟨b, off, hA⟩ := HR.out.some_ hlt
      obtain rfl : A = some ⟨b, off, none⟩ := hA
      have HSN := Lib.hid (ex2_snoc l i hlt)
      obtain ⟨h0, h1⟩ := HQ.out _ (List.getElem_mem hlt)
      obtain ⟨x0, x1, x2, x3, x4, x5, x6, x7, x8, x9, x10⟩ := HR.out.pdAt (Below.refl _ _) (List.getElem?_eq_getElem hlt)
      clear x0 x1 x2 x3 x4 x6 x7 x8 x9 x10
      generalize l[i] = x at *
      obtain ⟨q, hqq⟩ : ∃ q, x.q2 = q := ⟨_, rfl⟩
      rw [hqq] at h0 h1 x5 HSN
      clear hqq
      have hwq : IntKind.u64.wrap q = q := by rw [IntKind.wrap_u64]; omega
      by_cases hc : N + q < 18446744073709551616
      · have hwn : IntKind.u64.wrap (N + q) = N + q := by rw [IntKind.wrap_u64]; omega
        have dn : decide (N + q < q) = false := decide_eq_false (by omega)
        have HN := Lib.hid (show H * 18446744073709551616 + (N + q) = ex2 0 (l.take (i + 1)) by rw [HSN.out, ← HS.out]; omega)
        go_wp2_with fail
        go_roundw
        case rel => exact ⟨i + 1, H, N + q, by omega, by go_num, rfl, rfl, HN.out, hH0, by omega, by omega, hc, by first | rfl | trivial⟩
        case measure => simp [intOf]; omega
      · have hwn : IntKind.u64.wrap (N + q) = N + q - 18446744073709551616 := by rw [IntKind.wrap_u64]; omega
        have dn : decide (N + q - 18446744073709551616 < q) = true := decide_eq_true (by omega)
        have hwh : IntKind.u64.wrap (H + 1) = H + 1 := by rw [IntKind.wrap_u64]; omega
        have HN := Lib.hid (show (H + 1) * 18446744073709551616 + (N + q - 18446744073709551616) = ex2 0 (l.take (i + 1)) by rw [HSN.out, ← HS.out]; omega)
        go_wp2_with fail
        go_roundw
        case rel => exact ⟨i + 1, H + 1, N + q - 18446744073709551616, by omega, by go_num, rfl, rfl, HN.out, by omega, by omega, by omega, by omega, by first | rfl | trivial⟩
        case measure => simp [intOf]; omega
    · obtain rfl : i = l.length := by omega
      have dk : decide ((l.length : Int) < (l.length : Int)) = false := by simp
      rw [List.take_length] at HS
      go_wp2_with fail
      go_ret2
      exact ⟨H, N, rfl, HS.out, hH0, hN0, hN1, rfl⟩
end Go.Proofs.YtakgblgbfbpmoaaDoor

namespace Go.Proofs.YtakgblgbfbpmoaaDoor
open Go.RowKit

theorem exWord {H N S r : Int} (h : H * 18446744073709551616 + N = S) (h0 : 0 ≤ H) (n0 : 0 ≤ N) (n1 : N < 18446744073709551616) (_hr : r ≤ 9223372036854775807) : decide (S < most ∧ S ≤ r) = (!(decide (0 < H)) && (!(decide (9223372036854775807 ≤ N)) && !(decide (r < N)))) := by
  rw [Bool.eq_iff_iff]
  unfold most
  simp only [Bool.and_eq_true, Bool.not_eq_true', decide_eq_false_iff_not, decide_eq_true_eq]
  omega
theorem right_q {p : Pd} (h : p.right = true) : 0 ≤ p.q0 ∧ 0 ≤ p.q1 ∧ 0 ≤ p.q2 := by
  unfold Pd.right Pd.amountsOk bad at h
  simp only [Bool.and_eq_true, Bool.not_eq_true', Bool.or_eq_false_iff, decide_eq_false_iff_not] at h
  omega
set_option maxRecDepth 100000 in
set_option maxHeartbeats 8000000 in
theorem pods_any (l : List En) (A : Option Addr) (c : Nat) (w : World) (hr : Rds w encN A l) (hn : l.length ≤ 50000) :
    Calls Tryd.prog 32 #[.slice A l.length c] w fun e w' => ∃ A c, e = .returned (.slice A (podsD l).length c) ∧ Own w' w.heap.size 44 encP (.slice A (podsD l).length c) (podsD l) ∧ Below w.heap.size w w' := by
  have HR := Lib.hid hr
  clear hr
  go_enter Tryd.func32, Tryd.ntmps32
  go_wp2_with fail
  go_loopw [3, 4] (fun st ii wr => ∃ (i : Nat) (A1 : Option Addr) (c1 : Nat), i ≤ l.length ∧ ii = .int .i64 i ∧ st = .slice A1 (podsD (l.take i)).length c1 ∧ Own wr w.heap.size 44 encP (.slice A1 (podsD (l.take i)).length c1) (podsD (l.take i)) ∧ Below w.heap.size w wr) (fun _ ii _ => l.length - (intOf ii).toNat)
  case atStart => exact ⟨0, none, 0, by omega, rfl, rfl, Own.nil_ _ _ _ _, Below.refl _ _⟩
  case round =>
    obtain ⟨i, A1, c1, hi, rfl, rfl, ho, hbl⟩ := hrel
    have HP := Lib.hid (And.intro ho hbl)
    clear ho hbl
    have HSL : Hid ((podsD (l.take i)).length ≤ l.length) := by show _ ≤ _; rw [podsD_len, List.length_take]; omega
    by_cases hlt : i < l.length
    · have dk : decide ((i : Int) < (l.length : Int)) = true := decide_eq_true (by omega)
      have dk2 : (i : Int) < (l.length : Int) := by omega
      obtain ⟨b0, off, hA, _⟩ := HR.out.en hlt
      obtain rfl : A = some ⟨b0, off, none⟩ := hA
      have HXI := Lib.hid (List.getElem?_eq_getElem hlt)
      have HSN := Lib.hid (podsD_snoc l i hlt)
      generalize podsD (l.take i) = S at *
      generalize l[i] = x at *
      obtain ⟨x0, x1, x2, x3, x4, x5, x6, x7, x8, x9, x10, x11⟩ := HR.out.enAt HP.out.2 HXI.out
      go_wp2_with (at_builtin; refine wl_push elemP encP rfl (.tmp 11) (.tmp 17) rfl x.pod #[.string x.pod.id, .int .i64 x.pod.prio, .bool x.pod.crit, .int .i64 x.pod.q0, .int .i64 x.pod.q1, .int .i64 x.pod.q2, .int .i64 x.pod.l0, .int .i64 x.pod.l1, .int .i64 x.pod.l2, .string x.pod.image, .int .i64 x.pod.size] rfl w.heap.size _ S rfl HP.out.1 rfl rfl HP.out.2 (by have := HSL.out; omega) (by have := HSL.out; omega) HP.out.2.size ?_; intro A3 k3 w4 ho hb _; have HX3 := Lib.hid (And.intro ho hb); clear ho hb)
      go_roundw
      case rel => exact ⟨i + 1, A3, k3, by omega, by go_num, by rw [HSN.out, List.length_append]; rfl, by rw [HSN.out]; exact own_len1 HX3.out.1, HX3.out.2⟩
      case measure => simp [intOf]; omega
    · obtain rfl : i = l.length := by omega
      have dk : decide ((l.length : Int) < (l.length : Int)) = false := by simp
      rw [List.take_length] at HP ⊢
      go_wp2_with fail
      go_ret
      exact ⟨A1, c1, rfl, HP.out.1, HP.out.2⟩
def GivesF (room : S3) (L : List Pd) (w : World) (e : Ending) (w' : World) : Prop := e = .returned (.bool (fitsB room L)) ∧ Below w.heap.size w w'
set_option maxRecDepth 100000 in
set_option maxHeartbeats 8000000 in
theorem within_any (room : S3) (L : List Pd) (A : Option Addr) (c : Nat) (w : World) (hr : Rds w encP A L) (hl : L.length ≤ 64) (hq : ∀ x ∈ L, x.Wf ∧ x.right = true) (ha : 0 ≤ room.a ∧ room.a ≤ 9223372036854775807) (hb : 0 ≤ room.b ∧ room.b ≤ 9223372036854775807) (hc : 0 ≤ room.c ∧ room.c ≤ 9223372036854775807) :
    Calls Tryd.prog 31 #[.agg #[.int .i64 room.a, .int .i64 room.b, .int .i64 room.c], .slice A L.length c] w (GivesF room L w) := by
  have HQ0 := Lib.hid (show ∀ x ∈ L, 0 ≤ x.q0 ∧ x.q0 ≤ 9223372036854775807 from fun x hx => ⟨(right_q (hq x hx).2).1, (hq x hx).1.q0.2⟩)
  have HQ1 := Lib.hid (show ∀ x ∈ L, 0 ≤ x.q1 ∧ x.q1 ≤ 9223372036854775807 from fun x hx => ⟨(right_q (hq x hx).2).2.1, (hq x hx).1.q1.2⟩)
  have HQ2 := Lib.hid (show ∀ x ∈ L, 0 ≤ x.q2 ∧ x.q2 ≤ 9223372036854775807 from fun x hx => ⟨(right_q (hq x hx).2).2.2, (hq x hx).1.q2.2⟩)
  have hwa : IntKind.u64.wrap room.a = room.a := by rw [IntKind.wrap_u64]; omega
  have hwb : IntKind.u64.wrap room.b = room.b := by rw [IntKind.wrap_u64]; omega
  have hwc : IntKind.u64.wrap room.c = room.c := by rw [IntKind.wrap_u64]; omega
  obtain ⟨G0, hG0⟩ : ∃ g, g = decide (ex0 0 L < most ∧ ex0 0 L ≤ room.a) := ⟨_, rfl⟩
  obtain ⟨G1, hG1⟩ : ∃ g, g = decide (ex1 0 L < most ∧ ex1 0 L ≤ room.b) := ⟨_, rfl⟩
  obtain ⟨G2, hG2⟩ : ∃ g, g = decide (ex2 0 L < most ∧ ex2 0 L ≤ room.c) := ⟨_, rfl⟩
  have HFB := Lib.hid (fitsB_exact room L fun x hx => right_q (hq x hx).2)
  rw [← hG0, ← hG1, ← hG2] at HFB
  have HE0 := Lib.hid hG0
  have HE1 := Lib.hid hG1
  have HE2 := Lib.hid hG2
  have HB := Lib.hid (And.intro (Blk.new w 42 #[.int .i64 room.a, .int .i64 room.b, .int .i64 room.c]) ((Below.refl w.heap.size w).alloc (Nat.le_refl _) (.cells #[.int .i64 room.a, .int .i64 room.b, .int .i64 room.c] 42)))
  have HR := Lib.hid hr
  clear hG0 hG1 hG2 hr hq
  go_enter Tryd.func31, Tryd.ntmps31
  go_wp2_with fail
  generalize (w.alloc (.cells #[.int .i64 room.a, .int .i64 room.b, .int .i64 room.c] 42)) = w1 at *
  go_loopw [4, 5, 6, 7] (fun rr kk hh nn wr => ∃ k : Nat, k ≤ 3 ∧ kk = .int .i64 k ∧ ((0 < k → G0 = true) ∧ (1 < k → G1 = true) ∧ (2 < k → G2 = true)) ∧ (Blk wr w.heap.size 42 #[.int .i64 room.a, .int .i64 room.b, .int .i64 room.c] ∧ Below w.heap.size w wr)) (fun _ kk _ _ _ => 3 - (intOf kk).toNat)
  case atStart => exact ⟨0, by omega, rfl, ⟨fun h => by omega, fun h => by omega, fun h => by omega⟩, HB.out⟩
  case round =>
    clear HB
    obtain ⟨k, hk, rfl, hg, hbl⟩ := hrel
    have HG := Lib.hid hg
    have HP := Lib.hid hbl
    clear hg hbl
    obtain rfl | rfl | rfl | rfl : k = 0 ∨ k = 1 ∨ k = 2 ∨ k = 3 := by omega
    · have c0 : wr.cell? ⟨w.heap.size, 0, none⟩ = some (.int .i64 room.a) := HP.out.1.cell 0
      go_wp2_with fail
      refine (exact0_any L A c _ (HR.out.below HP.out.2) hl HQ0.out).mono ?_; rintro e w2 ⟨H, N, rfl, hS, hH0, hN0, hN1, rfl⟩
      have HX0 := Lib.hid (exWord hS hH0 hN0 hN1 ha.2)
      clear hS
      cases d1 : decide (0 < H)
      · cases d2 : decide (9223372036854775807 ≤ N)
        · cases d3 : decide (room.a < N)
          · have HGT : Hid (G0 = true) := by show _ = _; rw [HE0.out, HX0.out]; simp only [d1, d2, d3]; rfl
            go_wp2_with fail
            go_roundw
            case rel => exact ⟨1, by omega, by rfl, ⟨fun _ => HGT.out, fun h => by omega, fun h => by omega⟩, HP.out⟩
            case measure => simp [intOf]
          · have HGF : Hid (G0 = false) := by show _ = _; rw [HE0.out, HX0.out]; simp only [d1, d2, d3]; rfl
            go_wp2_with fail
            go_ret
            exact ⟨by rw [HFB.out, HGF.out]; simp, HP.out.2⟩
        · have HGF : Hid (G0 = false) := by show _ = _; rw [HE0.out, HX0.out]; simp only [d1, d2]; rfl
          go_wp2_with fail
          go_ret
          exact ⟨by rw [HFB.out, HGF.out]; simp, HP.out.2⟩
      · have HGF : Hid (G0 = false) := by show _ = _; rw [HE0.out, HX0.out]; simp only [d1]; rfl
        go_wp2_with fail
        go_ret
        exact ⟨by rw [HFB.out, HGF.out]; simp, HP.out.2⟩
    · have c0 : wr.cell? ⟨w.heap.size, 1, none⟩ = some (.int .i64 room.b) := HP.out.1.cell 1
      go_wp2_with fail
      refine (exact1_any L A c _ (HR.out.below HP.out.2) hl HQ1.out).mono ?_; rintro e w2 ⟨H, N, rfl, hS, hH0, hN0, hN1, rfl⟩
      have HX1 := Lib.hid (exWord hS hH0 hN0 hN1 hb.2)
      clear hS
      cases d1 : decide (0 < H)
      · cases d2 : decide (9223372036854775807 ≤ N)
        · cases d3 : decide (room.b < N)
          · have HGT : Hid (G1 = true) := by show _ = _; rw [HE1.out, HX1.out]; simp only [d1, d2, d3]; rfl
            go_wp2_with fail
            go_roundw
            case rel => exact ⟨2, by omega, by rfl, ⟨fun _ => HG.out.1 (by omega), fun _ => HGT.out, fun h => by omega⟩, HP.out⟩
            case measure => simp [intOf]
          · have HGF : Hid (G1 = false) := by show _ = _; rw [HE1.out, HX1.out]; simp only [d1, d2, d3]; rfl
            go_wp2_with fail
            go_ret
            exact ⟨by rw [HFB.out, HGF.out]; simp, HP.out.2⟩
        · have HGF : Hid (G1 = false) := by show _ = _; rw [HE1.out, HX1.out]; simp only [d1, d2]; rfl
          go_wp2_with fail
          go_ret
          exact ⟨by rw [HFB.out, HGF.out]; simp, HP.out.2⟩
      · have HGF : Hid (G1 = false) := by show _ = _; rw [HE1.out, HX1.out]; simp only [d1]; rfl
        go_wp2_with fail
        go_ret
        exact ⟨by rw [HFB.out, HGF.out]; simp, HP.out.2⟩
    · have c0 : wr.cell? ⟨w.heap.size, 2, none⟩ = some (.int .i64 room.c) := HP.out.1.cell 2
      go_wp2_with fail
      refine (exact2_any L A c _ (HR.out.below HP.out.2) hl HQ2.out).mono ?_; rintro e w2 ⟨H, N, rfl, hS, hH0, hN0, hN1, rfl⟩
      have HX2 := Lib.hid (exWord hS hH0 hN0 hN1 hc.2)
      clear hS
      cases d1 : decide (0 < H)
      · cases d2 : decide (9223372036854775807 ≤ N)
        · cases d3 : decide (room.c < N)
          · have HGT : Hid (G2 = true) := by show _ = _; rw [HE2.out, HX2.out]; simp only [d1, d2, d3]; rfl
            go_wp2_with fail
            go_roundw
            case rel => exact ⟨3, by omega, by rfl, ⟨fun _ => HG.out.1 (by omega), fun _ => HG.out.2.1 (by omega), fun _ => HGT.out⟩, HP.out⟩
            case measure => simp [intOf]
          · have HGF : Hid (G2 = false) := by show _ = _; rw [HE2.out, HX2.out]; simp only [d1, d2, d3]; rfl
            go_wp2_with fail
            go_ret
            exact ⟨by rw [HFB.out, HGF.out]; simp, HP.out.2⟩
        · have HGF : Hid (G2 = false) := by show _ = _; rw [HE2.out, HX2.out]; simp only [d1, d2]; rfl
          go_wp2_with fail
          go_ret
          exact ⟨by rw [HFB.out, HGF.out]; simp, HP.out.2⟩
      · have HGF : Hid (G2 = false) := by show _ = _; rw [HE2.out, HX2.out]; simp only [d1]; rfl
        go_wp2_with fail
        go_ret
        exact ⟨by rw [HFB.out, HGF.out]; simp, HP.out.2⟩
    · go_wp2_with fail
      go_ret
      exact ⟨by rw [HFB.out, HG.out.1 (by omega), HG.out.2.1 (by omega), HG.out.2.2 (by omega)]; rfl, HP.out.2⟩
end Go.Proofs.YtakgblgbfbpmoaaDoor
