/- bilgeref20.May, bilgeref20.Asked, bilgeref17.Of. -/
import Derived.Test.YtampjkgkiooibaaDoorRawPlain
namespace Go.Proofs.YtampjkgkiooibaaDoor
open Go.RowKit

/-- a sample in its box, and the result's -/
structure SQ0 (s : Sp) (w W : World) : Prop where
  rds0 : Rds w encU s.A s.uses
  smp : Blk W w.heap.size 32 s.cells
  res : Blk W (w.heap.size + 1) 29 #[.int .i64 0, .int .i64 0, .int .i64 0]
  bel : Below w.heap.size w W
theorem SQ0.rds {s : Sp} {w W : World} (h : SQ0 s w W) : Rds W encU s.A s.uses := h.rds0.below h.bel
theorem SQ0.new (s : Sp) (w : World) (hr : Rds w encU s.A s.uses) : SQ0 s w ((w.alloc (.cells s.cells 32)).alloc (.cells #[.int .i64 0, .int .i64 0, .int .i64 0] 29)) := by
  have hz : (w.alloc (.cells s.cells 32)).heap.size = w.heap.size + 1 := by simp
  have hb := Blk.new (w.alloc (.cells s.cells 32)) 29 #[.int .i64 0, .int .i64 0, .int .i64 0]
  rw [hz] at hb
  exact ⟨hr, (Blk.new w 32 s.cells).alloc _, hb, ((Below.refl _ _).alloc (Nat.le_refl _) _).alloc (by simp) _⟩
set_option maxHeartbeats 4000000 in
theorem refOf_any (s : Sp) (id : ByteArray) (x : Us) (w : World) (hr : Rds w encU s.A s.uses) (hl : s.uses.length ≤ 100000) (hs : SortedU s.uses) (hx : usOf s.uses id = x) :
    Calls Tryd.prog 18 #[.agg s.cells, .string id] w fun e w' => e = .returned (.agg #[.int .i64 x.a0, .int .i64 x.a1, .int .i64 x.a2]) ∧ Below w.heap.size w w' := by
  have HQ := Lib.hid (SQ0.new s w hr)
  have HS := Lib.hid hs
  have HX := Lib.hid hx
  clear hr hs hx
  go_enter Tryd.func18, Tryd.ntmps18
  go_wp2_with fail
  go_loopw [5] (fun i wr => ∃ k : Nat, k ≤ s.uses.length ∧ i = .int .i64 k ∧ (∀ x ∈ s.uses.take k, (x.id.toList == id.toList) = false) ∧ SQ0 s w wr) (fun i _ => s.uses.length - (intOf i).toNat)
  case atStart => exact ⟨0, by omega, rfl, by simp, HQ.out⟩
  case round =>
    clear HQ
    obtain ⟨k, hk, rfl, hn, hQ⟩ := hrel
    have HN := Lib.hid hn
    have HQ := Lib.hid hQ
    clear hn hQ
    have cb := HQ.out.smp.cell
    by_cases hlt : k < s.uses.length
    · obtain ⟨b, off, hA, hb, c0, c1, c2, c3⟩ := HQ.out.rds.us hlt
      have dk : decide ((k : Int) < (s.uses.length : Int)) = true := decide_eq_true (by omega)
      have dk3 : (k : Int) < (s.uses.length : Int) := by omega
      have HAt := Lib.hid (fun h => usOf_at (id := id) HS.out hlt h)
      have HNx := Lib.hid (show ∀ h : (s.uses[k].id.toList == id.toList) = false, ∀ x ∈ s.uses.take (k + 1), (x.id.toList == id.toList) = false from fun h x hx => by
        rw [List.take_succ_eq_append_getElem hlt] at hx
        rcases List.mem_append.1 hx with h1 | h1
        · exact HN.out x h1
        · have e : x = s.uses[k] := by simpa using h1
          rw [e]; exact h)
      generalize s.uses[k] = y at *
      clear hb
      cases he : (y.id.toList == id.toList)
      · have HNn := Lib.hid (HNx.out he)
        clear HAt HNx HN
        go_wp2_with fail
        go_roundw
        case rel => exact ⟨k + 1, by omega, by go_num, HNn.out, HQ.out⟩
        case measure => simp [intOf]; omega
      · have HE : Hid (y = x) := by have := HAt.out he; rw [HX.out] at this; exact this.symm
        clear HAt HNx HN
        go_wp2_with (refine wl_store_blk rfl 29 (.tmp 4) (.tmp 26) rfl (w.heap.size + 1) 29 #[.int .i64 0, .int .i64 0, .int .i64 0] #[.int .i64 y.a0, .int .i64 y.a1, .int .i64 y.a2] rfl rfl HQ.out.res rfl sz3 (by simp [Value.oneCell']) ?_; intro w5 hR5 hg5 hs5)
        have hl5 := hR5.cell
        exact bodyPost_ret (v := .agg #[.int .i64 y.a0, .int .i64 y.a1, .int .i64 y.a2]) (by simp [results, Tryd.results18, go_sem, hl5]) rfl ⟨by rw [HE.out], HQ.out.bel.grown hg5 HQ.out.bel.size (by intro k hk; cases hk; omega)⟩
    · obtain rfl : k = s.uses.length := by omega
      have dk : decide ((s.uses.length : Int) < (s.uses.length : Int)) = false := by simp
      have HE : Hid (x = ⟨⟨#[]⟩, 0, 0, 0⟩) := by have := usOf_none (l := s.uses) (id := id) (by have := HN.out; rwa [List.take_length] at this); rw [HX.out] at this; exact this
      clear HN hk hlt
      go_wp2_with (refine wl_store_blk rfl 29 (.tmp 4) (.tmp 27) rfl (w.heap.size + 1) 29 #[.int .i64 0, .int .i64 0, .int .i64 0] #[.int .i64 0, .int .i64 0, .int .i64 0] rfl rfl HQ.out.res rfl sz3 (by simp [Value.oneCell']) ?_; intro w5 hR5 hg5 hs5)
      have hl5 := hR5.cell
      exact bodyPost_ret (v := .agg #[.int .i64 0, .int .i64 0, .int .i64 0]) (by simp [results, Tryd.results18, go_sem, hl5]) rfl ⟨by rw [HE.out], HQ.out.bel.grown hg5 HQ.out.bel.size (by intro k hk; cases hk; omega)⟩
end Go.Proofs.YtampjkgkiooibaaDoor
