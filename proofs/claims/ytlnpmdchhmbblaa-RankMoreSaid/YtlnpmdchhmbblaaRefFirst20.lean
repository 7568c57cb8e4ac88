/- bilgeref20.First: the place of the pod that goes first. -/
import Derived.Test.YtlnpmdchhmbblaaRankPlain20
import Derived.Test.YtlnpmdchhmbblaaRefAhead20
import Derived.Test.YtlnpmdchhmbblaaHeld
namespace Go.Proofs.Ytlnpmdchhmbblaa
open Go.RowKit

/-- a sample in its box, and a table -/
structure FQ (s : Sp) (l : List En) (A : Option Addr) (w W : World) : Prop where
  ru : Rds w encU s.A s.uses
  rn : Rds w encN A l
  smp : Blk W w.heap.size 36 s.cells
  bel : Below w.heap.size w W
theorem FQ.drew {s : Sp} {l : List En} {A : Option Addr} {w W : World} (h : FQ s l A w W) : FQ s l A w W.drew := ⟨h.ru, h.rn, h.smp.drew, h.bel.drew⟩
theorem FQ.below {s : Sp} {l : List En} {A : Option Addr} {w W W' : World} (h : FQ s l A w W) (hb : Below W.heap.size W W') : FQ s l A w W' := ⟨h.ru, h.rn, h.smp.belowAll hb, h.bel.trans (hb.mono h.bel.size)⟩
theorem FQ.new (s : Sp) (l : List En) (A : Option Addr) (w : World) (hr : Rds w encU s.A s.uses) (hn : Rds w encN A l) : FQ s l A w (w.alloc (.cells s.cells 36)) := ⟨hr, hn, Blk.new _ _ _, (Below.refl _ _).alloc (Nat.le_refl _) _⟩
theorem Rds.enAt {w W : World} {b off : Nat} {l : List En} (h : Rds w encN (some ⟨b, off, none⟩) l) (hb : Below w.heap.size w W) {i : Nat} {x : En} (hx : l[i]? = some x) : W.cell? ⟨b, off + i * 12, none⟩ = some (.string x.pod.id) ∧ W.cell? ⟨b, off + i * 12 + 1, none⟩ = some (.int .i64 x.pod.prio) ∧ W.cell? ⟨b, off + i * 12 + 2, none⟩ = some (.bool x.pod.crit) ∧ W.cell? ⟨b, off + i * 12 + 3, none⟩ = some (.int .i64 x.pod.q0) ∧ W.cell? ⟨b, off + i * 12 + 4, none⟩ = some (.int .i64 x.pod.q1) ∧ W.cell? ⟨b, off + i * 12 + 5, none⟩ = some (.int .i64 x.pod.q2) ∧ W.cell? ⟨b, off + i * 12 + 6, none⟩ = some (.int .i64 x.pod.l0) ∧ W.cell? ⟨b, off + i * 12 + 7, none⟩ = some (.int .i64 x.pod.l1) ∧ W.cell? ⟨b, off + i * 12 + 8, none⟩ = some (.int .i64 x.pod.l2) ∧ W.cell? ⟨b, off + i * 12 + 9, none⟩ = some (.string x.pod.image) ∧ W.cell? ⟨b, off + i * 12 + 10, none⟩ = some (.int .i64 x.pod.size) ∧ W.cell? ⟨b, off + i * 12 + 11, none⟩ = some (.int .i64 x.phase) := by
  obtain ⟨hi, rfl⟩ := List.getElem?_eq_some_iff.1 hx
  obtain ⟨b', off', hA, _, hc⟩ := (h.below hb).en hi
  injection hA with hA
  injection hA with h1 h2
  subst h1 h2
  exact hc
theorem FQ.cells1 {s : Sp} {l : List En} {b off : Nat} {w W : World} (h : FQ s l (some ⟨b, off, none⟩) w W) {i : Nat} {x : En} (hx : l[i]? = some x) : W.cell? ⟨b, off + i * 12, none⟩ = some (.string x.pod.id) ∧ W.cell? ⟨b, off + i * 12 + 1, none⟩ = some (.int .i64 x.pod.prio) ∧ W.cell? ⟨b, off + i * 12 + 2, none⟩ = some (.bool x.pod.crit) ∧ W.cell? ⟨b, off + i * 12 + 3, none⟩ = some (.int .i64 x.pod.q0) ∧ W.cell? ⟨b, off + i * 12 + 4, none⟩ = some (.int .i64 x.pod.q1) ∧ W.cell? ⟨b, off + i * 12 + 5, none⟩ = some (.int .i64 x.pod.q2) ∧ W.cell? ⟨b, off + i * 12 + 6, none⟩ = some (.int .i64 x.pod.l0) ∧ W.cell? ⟨b, off + i * 12 + 7, none⟩ = some (.int .i64 x.pod.l1) ∧ W.cell? ⟨b, off + i * 12 + 8, none⟩ = some (.int .i64 x.pod.l2) ∧ W.cell? ⟨b, off + i * 12 + 9, none⟩ = some (.string x.pod.image) ∧ W.cell? ⟨b, off + i * 12 + 10, none⟩ = some (.int .i64 x.pod.size) ∧ W.cell? ⟨b, off + i * 12 + 11, none⟩ = some (.int .i64 x.phase) := h.rn.enAt h.bel hx
theorem FQ.cells2 {s : Sp} {l : List En} {b off : Nat} {w W : World} (h : FQ s l (some ⟨b, off, none⟩) w W) {i j : Nat} {x y : En} (hx : l[i]? = some x) (hy : l[j]? = some y) : W.cell? ⟨b, off + i * 12, none⟩ = some (.string x.pod.id) ∧ W.cell? ⟨b, off + i * 12 + 1, none⟩ = some (.int .i64 x.pod.prio) ∧ W.cell? ⟨b, off + i * 12 + 2, none⟩ = some (.bool x.pod.crit) ∧ W.cell? ⟨b, off + i * 12 + 3, none⟩ = some (.int .i64 x.pod.q0) ∧ W.cell? ⟨b, off + i * 12 + 4, none⟩ = some (.int .i64 x.pod.q1) ∧ W.cell? ⟨b, off + i * 12 + 5, none⟩ = some (.int .i64 x.pod.q2) ∧ W.cell? ⟨b, off + i * 12 + 6, none⟩ = some (.int .i64 x.pod.l0) ∧ W.cell? ⟨b, off + i * 12 + 7, none⟩ = some (.int .i64 x.pod.l1) ∧ W.cell? ⟨b, off + i * 12 + 8, none⟩ = some (.int .i64 x.pod.l2) ∧ W.cell? ⟨b, off + i * 12 + 9, none⟩ = some (.string x.pod.image) ∧ W.cell? ⟨b, off + i * 12 + 10, none⟩ = some (.int .i64 x.pod.size) ∧ W.cell? ⟨b, off + i * 12 + 11, none⟩ = some (.int .i64 x.phase) ∧ W.cell? ⟨b, off + j * 12, none⟩ = some (.string y.pod.id) ∧ W.cell? ⟨b, off + j * 12 + 1, none⟩ = some (.int .i64 y.pod.prio) ∧ W.cell? ⟨b, off + j * 12 + 2, none⟩ = some (.bool y.pod.crit) ∧ W.cell? ⟨b, off + j * 12 + 3, none⟩ = some (.int .i64 y.pod.q0) ∧ W.cell? ⟨b, off + j * 12 + 4, none⟩ = some (.int .i64 y.pod.q1) ∧ W.cell? ⟨b, off + j * 12 + 5, none⟩ = some (.int .i64 y.pod.q2) ∧ W.cell? ⟨b, off + j * 12 + 6, none⟩ = some (.int .i64 y.pod.l0) ∧ W.cell? ⟨b, off + j * 12 + 7, none⟩ = some (.int .i64 y.pod.l1) ∧ W.cell? ⟨b, off + j * 12 + 8, none⟩ = some (.int .i64 y.pod.l2) ∧ W.cell? ⟨b, off + j * 12 + 9, none⟩ = some (.string y.pod.image) ∧ W.cell? ⟨b, off + j * 12 + 10, none⟩ = some (.int .i64 y.pod.size) ∧ W.cell? ⟨w.heap.size, 0, none⟩ = some (.int .i64 s.time) ∧ W.cell? ⟨w.heap.size, 1, none⟩ = some (.int .i64 s.v0) ∧ W.cell? ⟨w.heap.size, 2, none⟩ = some (.int .i64 s.v1) ∧ W.cell? ⟨w.heap.size, 3, none⟩ = some (.int .i64 s.v2) ∧ W.cell? ⟨w.heap.size, 4, none⟩ = some (.slice s.A s.uses.length s.c) := by
  obtain ⟨a0, a1, a2, a3, a4, a5, a6, a7, a8, a9, a10, a11⟩ := h.rn.enAt h.bel hx
  obtain ⟨c0, c1, c2, c3, c4, c5, c6, c7, c8, c9, c10, c11⟩ := h.rn.enAt h.bel hy
  exact ⟨a0, a1, a2, a3, a4, a5, a6, a7, a8, a9, a10, a11, c0, c1, c2, c3, c4, c5, c6, c7, c8, c9, c10, h.smp.cell 0, h.smp.cell 1, h.smp.cell 2, h.smp.cell 3, h.smp.cell 4⟩
theorem refMayF {s : Sp} {l : List En} {A : Option Addr} {w W : World} {x : En} {v : Bool} (hv : mayB x = v) (_ : FQ s l A w W) :
    Calls Try.prog 24 #[.agg x.cells] W fun e w' => e = .returned (.bool v) ∧ Below W.heap.size W w' := by subst hv; exact refMay_any x W
theorem refAheadF {k : Int} (hk : k = 0 ∨ k = 1 ∨ k = 2) {s : Sp} {l : List En} {A : Option Addr} {w W : World} {x y : Pd} {v : Bool} (hv : aheadB k x y s.uses = v) (h : FQ s l A w W) (hl : s.uses.length ≤ 100000) (hs : SortedU s.uses) (hx : ExOk k x s.uses) (hy : ExOk k y s.uses) :
    Calls Try.prog 22 #[.int .i64 k, .agg x.cells, .agg y.cells, .agg s.cells] W fun e w' => e = .returned (.bool v) ∧ Below W.heap.size W w' := refAheadV_any hk hv W (h.ru.below h.bel) hl hs hx hy
/-- what First answers -/
def GivesB (k : Int) (l : List En) (us : List Us) (w : World) (e : Ending) (w' : World) : Prop := ∃ b, BestTo k l us l.length b ∧ e = .returned (.int .i64 (bestV b)) ∧ Below w.heap.size w w'
set_option maxRecDepth 100000 in
set_option maxHeartbeats 1000000 in
theorem refFirst_any (k : Int) (hk : k = 0 ∨ k = 1 ∨ k = 2) (l : List En) (A : Option Addr) (c : Nat) (s : Sp) (w : World) (hr : Rds w encU s.A s.uses) (hl : s.uses.length ≤ 100000) (hs : SortedU s.uses) (hrn : Rds w encN A l) (hln : l.length ≤ 100000) (hx : ∀ x ∈ l, ExOk k x.pod s.uses) :
    Calls Try.prog 28 #[.int .i64 k, .slice A l.length c, .agg s.cells] w (GivesB k l s.uses w) := by
  have mixed : Try.prog.follows Departure.mixedOrders = true := by kernel_rfl
  have HQ0 := Lib.hid (FQ.new s l A w hr hrn)
  have HS := Lib.hid hs
  have HXX := Lib.hid hx
  have HKK := Lib.hid hk
  clear hr hrn hs hx hk
  go_enter Try.func28, Try.ntmps28
  go_wp2_with fail
  go_loopw [7, 8] (fun bb ii wr => ∃ (i : Nat) (bo : Option Nat) (z : Int), i ≤ l.length ∧ ii = .int .i64 i ∧ bb = .int .i64 z ∧ z = bestV bo ∧ BestTo k l s.uses i bo ∧ FQ s l A w wr) (fun _ ii _ => l.length - (intOf ii).toNat)
  case atStart => exact ⟨0, none, -1, by omega, rfl, rfl, rfl, BestTo.start _ _ _, HQ0.out⟩
  case round =>
    clear HQ0
    obtain ⟨i, bo, z, hi, rfl, rfl, hz, hb, hq⟩ := hrel
    have HB := Lib.hid hb
    have HQd := Lib.hid hq
    clear hb hq
    by_cases hlt : i < l.length
    · obtain ⟨b, off, hA, _⟩ := HQd.out.rn.en hlt
      obtain rfl : A = some ⟨b, off, none⟩ := hA
      have dk : decide ((i : Int) < (l.length : Int)) = true := decide_eq_true (by omega)
      have dk2 : (i : Int) < (l.length : Int) := by omega
      have HXI := Lib.hid (List.getElem?_eq_getElem hlt)
      have HEX := Lib.hid (HXX.out _ (List.getElem_mem hlt))
      have HSkip := Lib.hid (fun h => HB.out.skip hlt h)
      have HFst := Lib.hid (fun (h : bo = none) => (show BestTo k l s.uses i none by rw [← h]; exact HB.out).first hlt)
      have HTurn := Lib.hid (fun j (h : bo = some j) => (show BestTo k l s.uses i (some j) by rw [← h]; exact HB.out).turn hlt)
      have HStay := Lib.hid (fun j (h : bo = some j) => (show BestTo k l s.uses i (some j) by rw [← h]; exact HB.out).stay hlt)
      generalize l[i] = x at *
      have HQ := Lib.hid HQd.out.drew
      cases hm : mayB x
      · have HN := Lib.hid (HSkip.out hm)
        have HM := Lib.hid hm
        have HZ := Lib.hid hz
        clear hm HSkip HFst HTurn HStay hz
        go_wp2_with fail
        refine wp_region_held_drew (S := (fun w' => w'.cell? ⟨b, off + i * 12, none⟩ = some (.string x.pod.id) ∧ w'.cell? ⟨b, off + i * 12 + 1, none⟩ = some (.int .i64 x.pod.prio) ∧ w'.cell? ⟨b, off + i * 12 + 2, none⟩ = some (.bool x.pod.crit) ∧ w'.cell? ⟨b, off + i * 12 + 3, none⟩ = some (.int .i64 x.pod.q0) ∧ w'.cell? ⟨b, off + i * 12 + 4, none⟩ = some (.int .i64 x.pod.q1) ∧ w'.cell? ⟨b, off + i * 12 + 5, none⟩ = some (.int .i64 x.pod.q2) ∧ w'.cell? ⟨b, off + i * 12 + 6, none⟩ = some (.int .i64 x.pod.l0) ∧ w'.cell? ⟨b, off + i * 12 + 7, none⟩ = some (.int .i64 x.pod.l1) ∧ w'.cell? ⟨b, off + i * 12 + 8, none⟩ = some (.int .i64 x.pod.l2) ∧ w'.cell? ⟨b, off + i * 12 + 9, none⟩ = some (.string x.pod.image) ∧ w'.cell? ⟨b, off + i * 12 + 10, none⟩ = some (.int .i64 x.pod.size) ∧ w'.cell? ⟨b, off + i * 12 + 11, none⟩ = some (.int .i64 x.phase))) (by kernel_rfl) (HQ.out.cells1 HXI.out) (fun hHeld => ?_)
        refine held_take 0 15 (.slice (some ⟨b, off, none⟩) l.length c) rfl rfl (by kernel_rfl) (by kernel_rfl) (by kernel_rfl) (fun _ _ _ h => h) (by rfl) (by intro w' hSw; (try dsimp only at hSw); go_simp; (try (with_reducible rfl))) (by assumption) ?_
        simp only [Act.put, List.setIfInBounds_toArray, List.set_cons_zero, List.set_cons_succ]
        refine held_take 1 16 (.int .i64 i) rfl rfl (by kernel_rfl) (by kernel_rfl) (by kernel_rfl) (fun _ _ _ h => h) (by rfl) (by intro w' hSw; (try dsimp only at hSw); go_simp; (try (with_reducible rfl))) (by assumption) ?_
        simp only [Act.put, List.setIfInBounds_toArray, List.set_cons_zero, List.set_cons_succ]
        refine held_take 2 17 (.pointer (some ⟨b, off + i * 12, none⟩)) rfl rfl (by kernel_rfl) (by kernel_rfl) (by kernel_rfl) (fun _ _ _ h => h) (by rfl) (by intro w' hSw; (try dsimp only at hSw); go_simp; (try (with_reducible rfl))) (by assumption) ?_
        simp only [Act.put, List.setIfInBounds_toArray, List.set_cons_zero, List.set_cons_succ]
        refine held_take 3 18 (.agg x.cells) rfl rfl (by kernel_rfl) (by kernel_rfl) (by kernel_rfl) (fun _ _ _ h => h) (by rfl) (by intro w' hSw; (try dsimp only at hSw); go_simp; (try (with_reducible rfl))) (by assumption) ?_
        simp only [Act.put, List.setIfInBounds_toArray, List.set_cons_zero, List.set_cons_succ]
        refine held_call 4 19 rfl rfl (by kernel_rfl) (by rfl) (fun K hK => ?_)
        go_simp
        go_at_call 24; with_reducible refine (refMayF HM.out HQ.out).mono ?_; rintro e v1 ⟨rfl, hb⟩; have HQ := Lib.hid (HQ.out.below hb); clear hb
        refine hK _ _ (HQ.out.cells1 HXI.out) ?_
        have hHeld := HQ.out.cells1 HXI.out
        clear hK K
        simp only [Act.put, List.setIfInBounds_toArray, List.set_cons_zero, List.set_cons_succ]
        refine held_take 5 20 (.bool false) rfl rfl (by kernel_rfl) (by kernel_rfl) (by kernel_rfl) (fun _ _ _ h => h) (by rfl) (by intro w' hSw; (try dsimp only at hSw); go_simp; (try (with_reducible rfl))) (by assumption) ?_
        simp only [Act.put, List.setIfInBounds_toArray, List.set_cons_zero, List.set_cons_succ]
        refine held_skip 6 21 rfl rfl (by kernel_rfl) (by kernel_rfl) (by kernel_rfl) (fun _ _ _ h => h) (by rfl) (by assumption) ?_
        simp only [Act.put, List.setIfInBounds_toArray, List.set_cons_zero, List.set_cons_succ]
        refine held_skip 7 22 rfl rfl (by kernel_rfl) (by kernel_rfl) (by kernel_rfl) (fun _ _ _ h => h) (by rfl) (by assumption) ?_
        simp only [Act.put, List.setIfInBounds_toArray, List.set_cons_zero, List.set_cons_succ]
        refine held_skip 8 23 rfl rfl (by kernel_rfl) (by kernel_rfl) (by kernel_rfl) (fun _ _ _ h => h) (by rfl) (by assumption) ?_
        simp only [Act.put, List.setIfInBounds_toArray, List.set_cons_zero, List.set_cons_succ]
        refine held_skip 9 24 rfl rfl (by kernel_rfl) (by kernel_rfl) (by kernel_rfl) (fun _ _ _ h => h) (by rfl) (by assumption) ?_
        simp only [Act.put, List.setIfInBounds_toArray, List.set_cons_zero, List.set_cons_succ]
        refine held_skip 10 25 rfl rfl (by kernel_rfl) (by kernel_rfl) (by kernel_rfl) (fun _ _ _ h => h) (by rfl) (by assumption) ?_
        simp only [Act.put, List.setIfInBounds_toArray, List.set_cons_zero, List.set_cons_succ]
        refine held_skip 11 26 rfl rfl (by kernel_rfl) (by kernel_rfl) (by kernel_rfl) (fun _ _ _ h => h) (by rfl) (by assumption) ?_
        simp only [Act.put, List.setIfInBounds_toArray, List.set_cons_zero, List.set_cons_succ]
        refine held_skip 12 27 rfl rfl (by kernel_rfl) (by kernel_rfl) (by kernel_rfl) (fun _ _ _ h => h) (by rfl) (by assumption) ?_
        simp only [Act.put, List.setIfInBounds_toArray, List.set_cons_zero, List.set_cons_succ]
        refine held_skip 13 28 rfl rfl (by kernel_rfl) (by kernel_rfl) (by kernel_rfl) (fun _ _ _ h => h) (by rfl) (by assumption) ?_
        simp only [Act.put, List.setIfInBounds_toArray, List.set_cons_zero, List.set_cons_succ]
        refine held_skip 14 29 rfl rfl (by kernel_rfl) (by kernel_rfl) (by kernel_rfl) (fun _ _ _ h => h) (by rfl) (by assumption) ?_
        simp only [Act.put, List.setIfInBounds_toArray, List.set_cons_zero, List.set_cons_succ]
        refine held_skip 15 30 rfl rfl (by kernel_rfl) (by kernel_rfl) (by kernel_rfl) (fun _ _ _ h => h) (by rfl) (by assumption) ?_
        simp only [Act.put, List.setIfInBounds_toArray, List.set_cons_zero, List.set_cons_succ]
        refine held_skip 16 31 rfl rfl (by kernel_rfl) (by kernel_rfl) (by kernel_rfl) (fun _ _ _ h => h) (by rfl) (by assumption) ?_
        simp only [Act.put, List.setIfInBounds_toArray, List.set_cons_zero, List.set_cons_succ]
        refine held_skip 17 32 rfl rfl (by kernel_rfl) (by kernel_rfl) (by kernel_rfl) (fun _ _ _ h => h) (by rfl) (by assumption) ?_
        simp only [Act.put, List.setIfInBounds_toArray, List.set_cons_zero, List.set_cons_succ]
        refine held_skip 18 33 rfl rfl (by kernel_rfl) (by kernel_rfl) (by kernel_rfl) (fun _ _ _ h => h) (by rfl) (by assumption) ?_
        simp only [Act.put, List.setIfInBounds_toArray, List.set_cons_zero, List.set_cons_succ]
        refine held_skip 19 34 rfl rfl (by kernel_rfl) (by kernel_rfl) (by kernel_rfl) (fun _ _ _ h => h) (by rfl) (by assumption) ?_
        simp only [Act.put, List.setIfInBounds_toArray, List.set_cons_zero, List.set_cons_succ]
        refine held_skip 20 35 rfl rfl (by kernel_rfl) (by kernel_rfl) (by kernel_rfl) (fun _ _ _ h => h) (by rfl) (by assumption) ?_
        simp only [Act.put, List.setIfInBounds_toArray, List.set_cons_zero, List.set_cons_succ]
        refine held_skip 21 36 rfl rfl (by kernel_rfl) (by kernel_rfl) (by kernel_rfl) (fun _ _ _ h => h) (by rfl) (by assumption) ?_
        simp only [Act.put, List.setIfInBounds_toArray, List.set_cons_zero, List.set_cons_succ]
        refine held_skip 22 37 rfl rfl (by kernel_rfl) (by kernel_rfl) (by kernel_rfl) (fun _ _ _ h => h) (by rfl) (by assumption) ?_
        simp only [Act.put, List.setIfInBounds_toArray, List.set_cons_zero, List.set_cons_succ]
        refine held_take 23 38 (.bool false) rfl rfl (by kernel_rfl) (by kernel_rfl) (by kernel_rfl) (fun _ _ _ h => h) (by rfl) (by intro w' hSw; (try dsimp only at hSw); go_simp; (try (with_reducible rfl))) (by assumption) ?_
        simp only [Act.put, List.setIfInBounds_toArray, List.set_cons_zero, List.set_cons_succ]
        refine wpAnyH_done (by kernel_rfl) ?_ _
        all_goals
          go_wp2_with fail
          go_roundw
          case rel => exact ⟨i + 1, bo, z, by omega, by go_num, rfl, HZ.out, HN.out, HQ.out⟩
          case measure => simp [intOf]; omega
      · have HM := Lib.hid hm
        cases bo with
        | none =>
          obtain rfl : z = -1 := hz
          have HN := Lib.hid (HFst.out rfl hm)
          have dz : decide ((-1 : Int) < 0) = true := rfl
          clear hm HSkip HFst HTurn HStay
          go_wp2_with fail
          refine wp_region_held_drew (S := (fun w' => w'.cell? ⟨b, off + i * 12, none⟩ = some (.string x.pod.id) ∧ w'.cell? ⟨b, off + i * 12 + 1, none⟩ = some (.int .i64 x.pod.prio) ∧ w'.cell? ⟨b, off + i * 12 + 2, none⟩ = some (.bool x.pod.crit) ∧ w'.cell? ⟨b, off + i * 12 + 3, none⟩ = some (.int .i64 x.pod.q0) ∧ w'.cell? ⟨b, off + i * 12 + 4, none⟩ = some (.int .i64 x.pod.q1) ∧ w'.cell? ⟨b, off + i * 12 + 5, none⟩ = some (.int .i64 x.pod.q2) ∧ w'.cell? ⟨b, off + i * 12 + 6, none⟩ = some (.int .i64 x.pod.l0) ∧ w'.cell? ⟨b, off + i * 12 + 7, none⟩ = some (.int .i64 x.pod.l1) ∧ w'.cell? ⟨b, off + i * 12 + 8, none⟩ = some (.int .i64 x.pod.l2) ∧ w'.cell? ⟨b, off + i * 12 + 9, none⟩ = some (.string x.pod.image) ∧ w'.cell? ⟨b, off + i * 12 + 10, none⟩ = some (.int .i64 x.pod.size) ∧ w'.cell? ⟨b, off + i * 12 + 11, none⟩ = some (.int .i64 x.phase))) (by kernel_rfl) (HQ.out.cells1 HXI.out) (fun hHeld => ?_)
          refine held_take 0 15 (.slice (some ⟨b, off, none⟩) l.length c) rfl rfl (by kernel_rfl) (by kernel_rfl) (by kernel_rfl) (fun _ _ _ h => h) (by rfl) (by intro w' hSw; (try dsimp only at hSw); go_simp; (try (with_reducible rfl))) (by assumption) ?_
          simp only [Act.put, List.setIfInBounds_toArray, List.set_cons_zero, List.set_cons_succ]
          refine held_take 1 16 (.int .i64 i) rfl rfl (by kernel_rfl) (by kernel_rfl) (by kernel_rfl) (fun _ _ _ h => h) (by rfl) (by intro w' hSw; (try dsimp only at hSw); go_simp; (try (with_reducible rfl))) (by assumption) ?_
          simp only [Act.put, List.setIfInBounds_toArray, List.set_cons_zero, List.set_cons_succ]
          refine held_take 2 17 (.pointer (some ⟨b, off + i * 12, none⟩)) rfl rfl (by kernel_rfl) (by kernel_rfl) (by kernel_rfl) (fun _ _ _ h => h) (by rfl) (by intro w' hSw; (try dsimp only at hSw); go_simp; (try (with_reducible rfl))) (by assumption) ?_
          simp only [Act.put, List.setIfInBounds_toArray, List.set_cons_zero, List.set_cons_succ]
          refine held_take 3 18 (.agg x.cells) rfl rfl (by kernel_rfl) (by kernel_rfl) (by kernel_rfl) (fun _ _ _ h => h) (by rfl) (by intro w' hSw; (try dsimp only at hSw); go_simp; (try (with_reducible rfl))) (by assumption) ?_
          simp only [Act.put, List.setIfInBounds_toArray, List.set_cons_zero, List.set_cons_succ]
          refine held_call 4 19 rfl rfl (by kernel_rfl) (by rfl) (fun K hK => ?_)
          go_simp
          go_at_call 24; with_reducible refine (refMayF HM.out HQ.out).mono ?_; rintro e v1 ⟨rfl, hb⟩; have HQ := Lib.hid (HQ.out.below hb); clear hb
          refine hK _ _ (HQ.out.cells1 HXI.out) ?_
          have hHeld := HQ.out.cells1 HXI.out
          clear hK K
          simp only [Act.put, List.setIfInBounds_toArray, List.set_cons_zero, List.set_cons_succ]
          refine held_take 5 20 (.bool true) rfl rfl (by kernel_rfl) (by kernel_rfl) (by kernel_rfl) (fun _ _ _ h => h) (by rfl) (by intro w' hSw; (try dsimp only at hSw); go_simp; (try (with_reducible rfl))) (by assumption) ?_
          simp only [Act.put, List.setIfInBounds_toArray, List.set_cons_zero, List.set_cons_succ]
          refine held_take 6 21 (.int .i64 (-1)) rfl rfl (by kernel_rfl) (by kernel_rfl) (by kernel_rfl) (fun _ _ _ h => h) (by rfl) (by intro w' hSw; (try dsimp only at hSw); go_simp; (try (with_reducible rfl))) (by assumption) ?_
          simp only [Act.put, List.setIfInBounds_toArray, List.set_cons_zero, List.set_cons_succ]
          refine held_take 7 22 (.bool true) rfl rfl (by kernel_rfl) (by kernel_rfl) (by kernel_rfl) (fun _ _ _ h => h) (by rfl) (by intro w' hSw; (try dsimp only at hSw); go_simp; (try (with_reducible rfl))) (by assumption) ?_
          simp only [Act.put, List.setIfInBounds_toArray, List.set_cons_zero, List.set_cons_succ]
          refine held_take 8 23 (.bool true) rfl rfl (by kernel_rfl) (by kernel_rfl) (by kernel_rfl) (fun _ _ _ h => h) (by rfl) (by intro w' hSw; (try dsimp only at hSw); go_simp; (try (with_reducible rfl))) (by assumption) ?_
          simp only [Act.put, List.setIfInBounds_toArray, List.set_cons_zero, List.set_cons_succ]
          refine held_skip 9 24 rfl rfl (by kernel_rfl) (by kernel_rfl) (by kernel_rfl) (fun _ _ _ h => h) (by rfl) (by assumption) ?_
          simp only [Act.put, List.setIfInBounds_toArray, List.set_cons_zero, List.set_cons_succ]
          refine held_skip 10 25 rfl rfl (by kernel_rfl) (by kernel_rfl) (by kernel_rfl) (fun _ _ _ h => h) (by rfl) (by assumption) ?_
          simp only [Act.put, List.setIfInBounds_toArray, List.set_cons_zero, List.set_cons_succ]
          refine held_skip 11 26 rfl rfl (by kernel_rfl) (by kernel_rfl) (by kernel_rfl) (fun _ _ _ h => h) (by rfl) (by assumption) ?_
          simp only [Act.put, List.setIfInBounds_toArray, List.set_cons_zero, List.set_cons_succ]
          refine held_skip 12 27 rfl rfl (by kernel_rfl) (by kernel_rfl) (by kernel_rfl) (fun _ _ _ h => h) (by rfl) (by assumption) ?_
          simp only [Act.put, List.setIfInBounds_toArray, List.set_cons_zero, List.set_cons_succ]
          refine held_skip 13 28 rfl rfl (by kernel_rfl) (by kernel_rfl) (by kernel_rfl) (fun _ _ _ h => h) (by rfl) (by assumption) ?_
          simp only [Act.put, List.setIfInBounds_toArray, List.set_cons_zero, List.set_cons_succ]
          refine held_skip 14 29 rfl rfl (by kernel_rfl) (by kernel_rfl) (by kernel_rfl) (fun _ _ _ h => h) (by rfl) (by assumption) ?_
          simp only [Act.put, List.setIfInBounds_toArray, List.set_cons_zero, List.set_cons_succ]
          refine held_skip 15 30 rfl rfl (by kernel_rfl) (by kernel_rfl) (by kernel_rfl) (fun _ _ _ h => h) (by rfl) (by assumption) ?_
          simp only [Act.put, List.setIfInBounds_toArray, List.set_cons_zero, List.set_cons_succ]
          refine held_skip 16 31 rfl rfl (by kernel_rfl) (by kernel_rfl) (by kernel_rfl) (fun _ _ _ h => h) (by rfl) (by assumption) ?_
          simp only [Act.put, List.setIfInBounds_toArray, List.set_cons_zero, List.set_cons_succ]
          refine held_skip 17 32 rfl rfl (by kernel_rfl) (by kernel_rfl) (by kernel_rfl) (fun _ _ _ h => h) (by rfl) (by assumption) ?_
          simp only [Act.put, List.setIfInBounds_toArray, List.set_cons_zero, List.set_cons_succ]
          refine held_skip 18 33 rfl rfl (by kernel_rfl) (by kernel_rfl) (by kernel_rfl) (fun _ _ _ h => h) (by rfl) (by assumption) ?_
          simp only [Act.put, List.setIfInBounds_toArray, List.set_cons_zero, List.set_cons_succ]
          refine held_skip 19 34 rfl rfl (by kernel_rfl) (by kernel_rfl) (by kernel_rfl) (fun _ _ _ h => h) (by rfl) (by assumption) ?_
          simp only [Act.put, List.setIfInBounds_toArray, List.set_cons_zero, List.set_cons_succ]
          refine held_skip 20 35 rfl rfl (by kernel_rfl) (by kernel_rfl) (by kernel_rfl) (fun _ _ _ h => h) (by rfl) (by assumption) ?_
          simp only [Act.put, List.setIfInBounds_toArray, List.set_cons_zero, List.set_cons_succ]
          refine held_skip 21 36 rfl rfl (by kernel_rfl) (by kernel_rfl) (by kernel_rfl) (fun _ _ _ h => h) (by rfl) (by assumption) ?_
          simp only [Act.put, List.setIfInBounds_toArray, List.set_cons_zero, List.set_cons_succ]
          refine held_take 22 37 (.bool true) rfl rfl (by kernel_rfl) (by kernel_rfl) (by kernel_rfl) (fun _ _ _ h => h) (by rfl) (by intro w' hSw; (try dsimp only at hSw); go_simp; (try (with_reducible rfl))) (by assumption) ?_
          simp only [Act.put, List.setIfInBounds_toArray, List.set_cons_zero, List.set_cons_succ]
          refine held_take 23 38 (.bool true) rfl rfl (by kernel_rfl) (by kernel_rfl) (by kernel_rfl) (fun _ _ _ h => h) (by rfl) (by intro w' hSw; (try dsimp only at hSw); go_simp; (try (with_reducible rfl))) (by assumption) ?_
          simp only [Act.put, List.setIfInBounds_toArray, List.set_cons_zero, List.set_cons_succ]
          refine wpAnyH_done (by kernel_rfl) ?_ _
          all_goals
            go_wp2_with fail
            go_roundw
            case rel => exact ⟨i + 1, some i, (i : Int), by omega, by go_num, rfl, rfl, HN.out, HQ.out⟩
            case measure => simp [intOf]; omega
        | some j =>
          obtain rfl : z = (j : Int) := hz
          have hj : j < l.length := by obtain ⟨hj, _⟩ := HB.out; exact hj
          have HYJ := Lib.hid (List.getElem?_eq_getElem hj)
          have HEY := Lib.hid (HXX.out _ (List.getElem_mem hj))
          have HTu := Lib.hid (fun (h : aheadB k x.pod l[j].pod s.uses = true) => HTurn.out j rfl hm fun _ => h)
          have HSt := Lib.hid (fun (h : aheadB k x.pod l[j].pod s.uses = false) => HStay.out j rfl fun _ => h)
          generalize l[j] = y at *
          have dz : decide ((j : Int) < 0) = false := decide_eq_false (by omega)
          have dj2 : (j : Int) < (l.length : Int) := by omega
          clear hm HSkip HFst HTurn HStay
          cases ha : aheadB k x.pod y.pod s.uses
          · have HN := Lib.hid (HSt.out ha)
            have HAA := Lib.hid ha
            clear ha HTu HSt
            go_wp2_with fail
            go_region_held3 (fun w' => w'.cell? ⟨b, off + i * 12, none⟩ = some (.string x.pod.id) ∧ w'.cell? ⟨b, off + i * 12 + 1, none⟩ = some (.int .i64 x.pod.prio) ∧ w'.cell? ⟨b, off + i * 12 + 2, none⟩ = some (.bool x.pod.crit) ∧ w'.cell? ⟨b, off + i * 12 + 3, none⟩ = some (.int .i64 x.pod.q0) ∧ w'.cell? ⟨b, off + i * 12 + 4, none⟩ = some (.int .i64 x.pod.q1) ∧ w'.cell? ⟨b, off + i * 12 + 5, none⟩ = some (.int .i64 x.pod.q2) ∧ w'.cell? ⟨b, off + i * 12 + 6, none⟩ = some (.int .i64 x.pod.l0) ∧ w'.cell? ⟨b, off + i * 12 + 7, none⟩ = some (.int .i64 x.pod.l1) ∧ w'.cell? ⟨b, off + i * 12 + 8, none⟩ = some (.int .i64 x.pod.l2) ∧ w'.cell? ⟨b, off + i * 12 + 9, none⟩ = some (.string x.pod.image) ∧ w'.cell? ⟨b, off + i * 12 + 10, none⟩ = some (.int .i64 x.pod.size) ∧ w'.cell? ⟨b, off + i * 12 + 11, none⟩ = some (.int .i64 x.phase) ∧ w'.cell? ⟨b, off + j * 12, none⟩ = some (.string y.pod.id) ∧ w'.cell? ⟨b, off + j * 12 + 1, none⟩ = some (.int .i64 y.pod.prio) ∧ w'.cell? ⟨b, off + j * 12 + 2, none⟩ = some (.bool y.pod.crit) ∧ w'.cell? ⟨b, off + j * 12 + 3, none⟩ = some (.int .i64 y.pod.q0) ∧ w'.cell? ⟨b, off + j * 12 + 4, none⟩ = some (.int .i64 y.pod.q1) ∧ w'.cell? ⟨b, off + j * 12 + 5, none⟩ = some (.int .i64 y.pod.q2) ∧ w'.cell? ⟨b, off + j * 12 + 6, none⟩ = some (.int .i64 y.pod.l0) ∧ w'.cell? ⟨b, off + j * 12 + 7, none⟩ = some (.int .i64 y.pod.l1) ∧ w'.cell? ⟨b, off + j * 12 + 8, none⟩ = some (.int .i64 y.pod.l2) ∧ w'.cell? ⟨b, off + j * 12 + 9, none⟩ = some (.string y.pod.image) ∧ w'.cell? ⟨b, off + j * 12 + 10, none⟩ = some (.int .i64 y.pod.size) ∧ w'.cell? ⟨w.heap.size, 0, none⟩ = some (.int .i64 s.time) ∧ w'.cell? ⟨w.heap.size, 1, none⟩ = some (.int .i64 s.v0) ∧ w'.cell? ⟨w.heap.size, 2, none⟩ = some (.int .i64 s.v1) ∧ w'.cell? ⟨w.heap.size, 3, none⟩ = some (.int .i64 s.v2) ∧ w'.cell? ⟨w.heap.size, 4, none⟩ = some (.slice s.A s.uses.length s.c)) (first | with_reducible exact (HQ.out.cells2 HXI.out HYJ.out) | with_reducible exact (HQd.out.cells2 HXI.out HYJ.out))
              (first
                | (go_at_call 24; with_reducible refine (refMayF HM.out HQ.out).mono ?_; rintro e v1 ⟨rfl, hb⟩; have HQ := Lib.hid (HQ.out.below hb); clear hb)
                | (go_at_call 22; with_reducible refine (refAheadF HKK.out HAA.out HQ.out hl HS.out HEX.out HEY.out).mono ?_; rintro e v1 ⟨rfl, hb⟩; have HQ := Lib.hid (HQ.out.below hb); clear hb))
            all_goals
              go_wp2_with fail
              go_roundw
              case rel => exact ⟨i + 1, some j, (j : Int), by omega, by go_num, rfl, rfl, HN.out, HQ.out⟩
              case measure => simp [intOf]; omega
          · have HN := Lib.hid (HTu.out ha)
            have HAA := Lib.hid ha
            clear ha HTu HSt
            go_wp2_with fail
            go_region_held3 (fun w' => w'.cell? ⟨b, off + i * 12, none⟩ = some (.string x.pod.id) ∧ w'.cell? ⟨b, off + i * 12 + 1, none⟩ = some (.int .i64 x.pod.prio) ∧ w'.cell? ⟨b, off + i * 12 + 2, none⟩ = some (.bool x.pod.crit) ∧ w'.cell? ⟨b, off + i * 12 + 3, none⟩ = some (.int .i64 x.pod.q0) ∧ w'.cell? ⟨b, off + i * 12 + 4, none⟩ = some (.int .i64 x.pod.q1) ∧ w'.cell? ⟨b, off + i * 12 + 5, none⟩ = some (.int .i64 x.pod.q2) ∧ w'.cell? ⟨b, off + i * 12 + 6, none⟩ = some (.int .i64 x.pod.l0) ∧ w'.cell? ⟨b, off + i * 12 + 7, none⟩ = some (.int .i64 x.pod.l1) ∧ w'.cell? ⟨b, off + i * 12 + 8, none⟩ = some (.int .i64 x.pod.l2) ∧ w'.cell? ⟨b, off + i * 12 + 9, none⟩ = some (.string x.pod.image) ∧ w'.cell? ⟨b, off + i * 12 + 10, none⟩ = some (.int .i64 x.pod.size) ∧ w'.cell? ⟨b, off + i * 12 + 11, none⟩ = some (.int .i64 x.phase) ∧ w'.cell? ⟨b, off + j * 12, none⟩ = some (.string y.pod.id) ∧ w'.cell? ⟨b, off + j * 12 + 1, none⟩ = some (.int .i64 y.pod.prio) ∧ w'.cell? ⟨b, off + j * 12 + 2, none⟩ = some (.bool y.pod.crit) ∧ w'.cell? ⟨b, off + j * 12 + 3, none⟩ = some (.int .i64 y.pod.q0) ∧ w'.cell? ⟨b, off + j * 12 + 4, none⟩ = some (.int .i64 y.pod.q1) ∧ w'.cell? ⟨b, off + j * 12 + 5, none⟩ = some (.int .i64 y.pod.q2) ∧ w'.cell? ⟨b, off + j * 12 + 6, none⟩ = some (.int .i64 y.pod.l0) ∧ w'.cell? ⟨b, off + j * 12 + 7, none⟩ = some (.int .i64 y.pod.l1) ∧ w'.cell? ⟨b, off + j * 12 + 8, none⟩ = some (.int .i64 y.pod.l2) ∧ w'.cell? ⟨b, off + j * 12 + 9, none⟩ = some (.string y.pod.image) ∧ w'.cell? ⟨b, off + j * 12 + 10, none⟩ = some (.int .i64 y.pod.size) ∧ w'.cell? ⟨w.heap.size, 0, none⟩ = some (.int .i64 s.time) ∧ w'.cell? ⟨w.heap.size, 1, none⟩ = some (.int .i64 s.v0) ∧ w'.cell? ⟨w.heap.size, 2, none⟩ = some (.int .i64 s.v1) ∧ w'.cell? ⟨w.heap.size, 3, none⟩ = some (.int .i64 s.v2) ∧ w'.cell? ⟨w.heap.size, 4, none⟩ = some (.slice s.A s.uses.length s.c)) (first | with_reducible exact (HQ.out.cells2 HXI.out HYJ.out) | with_reducible exact (HQd.out.cells2 HXI.out HYJ.out))
              (first
                | (go_at_call 24; with_reducible refine (refMayF HM.out HQ.out).mono ?_; rintro e v1 ⟨rfl, hb⟩; have HQ := Lib.hid (HQ.out.below hb); clear hb)
                | (go_at_call 22; with_reducible refine (refAheadF HKK.out HAA.out HQ.out hl HS.out HEX.out HEY.out).mono ?_; rintro e v1 ⟨rfl, hb⟩; have HQ := Lib.hid (HQ.out.below hb); clear hb))
            all_goals
              go_wp2_with fail
              go_roundw
              case rel => exact ⟨i + 1, some i, (i : Int), by omega, by go_num, rfl, rfl, HN.out, HQ.out⟩
              case measure => simp [intOf]; omega
    · obtain rfl : i = l.length := by omega
      have dk : decide ((l.length : Int) < (l.length : Int)) = false := by simp
      have HZ := Lib.hid hz
      clear hz
      go_wp2_with fail
      go_ret
      exact ⟨bo, HB.out, ret_int HZ.out, HQd.out.bel⟩
end Go.Proofs.Ytlnpmdchhmbblaa
