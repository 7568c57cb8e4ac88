/- bilgeref20.May, bilgeref20.Asked, bilgeref17.Of. -/
import Derived.Test.YtlnpmdchhmbblaaRawPlain
namespace Go.Proofs.Ytlnpmdchhmbblaa
open Go.RowKit

theorem refMay_any (x : En) (w : World) :
    Calls Try.prog 24 #[.agg x.cells] w fun e w' => e = .returned (.bool (mayB x)) ∧ Below w.heap.size w w' := by
  have HB := Lib.hid ((Below.refl w.heap.size w).alloc (Nat.le_refl _) (.cells x.cells 48))
  have HM : Hid (mayB x = (!x.pod.crit && ((x.phase == 1) || (x.phase == 2)))) := rfl
  cases hc : x.pod.crit
  · cases h1 : (x.phase == 1)
    · cases h2 : (x.phase == 2)
      all_goals
        have HV := Lib.hid HM.out
        rw [hc, h1, h2] at HV
        clear HM
        go_enter Try.func24, Try.ntmps24
        go_wp2_with fail
        go_ret
        exact ⟨ret_bool HV.out.symm, HB.out⟩
    · have HV := Lib.hid HM.out
      rw [hc, h1] at HV
      clear HM
      go_enter Try.func24, Try.ntmps24
      go_wp2_with fail
      go_ret
      exact ⟨ret_bool HV.out.symm, HB.out⟩
  · have HV := Lib.hid HM.out
    rw [hc] at HV
    clear HM
    go_enter Try.func24, Try.ntmps24
    go_wp2_with fail
    go_ret
    exact ⟨ret_bool HV.out.symm, HB.out⟩
theorem refAsked_any (p : Pd) (k : Int) (w : World) :
    Calls Try.prog 21 #[.agg p.cells, .int .i64 k] w fun e w' => e = .returned (.int .i64 (asked p k)) ∧ Below w.heap.size w w' := by
  have HB := Lib.hid ((Below.refl w.heap.size w).alloc (Nat.le_refl _) (.cells p.cells 24))
  have HM : Hid (asked p k = if k = 0 then p.q1 else if k = 2 then p.q2 else 0) := rfl
  by_cases h0 : k = 0
  · have HV := Lib.hid (HM.out.trans (if_pos h0))
    have d0 : (k == 0) = true := beq_iff_eq.2 h0
    clear HM h0
    go_enter Try.func21, Try.ntmps21
    go_wp2_with fail
    go_ret
    exact ⟨ret_int HV.out.symm, HB.out⟩
  · by_cases h2 : k = 2
    · have HV := Lib.hid (HM.out.trans ((if_neg h0).trans (if_pos h2)))
      have d0 : (k == 0) = false := beq_eq_false_iff_ne.2 h0
      have d2 : (k == 2) = true := beq_iff_eq.2 h2
      clear HM h0 h2
      go_enter Try.func21, Try.ntmps21
      go_wp2_with fail
      go_ret
      exact ⟨ret_int HV.out.symm, HB.out⟩
    · have HV := Lib.hid (HM.out.trans ((if_neg h0).trans (if_neg h2)))
      have d0 : (k == 0) = false := beq_eq_false_iff_ne.2 h0
      have d2 : (k == 2) = false := beq_eq_false_iff_ne.2 h2
      clear HM h0 h2
      go_enter Try.func21, Try.ntmps21
      go_wp2_with fail
      go_ret
      exact ⟨ret_int HV.out.symm, HB.out⟩
/-- a sample in its box, and the result's -/
structure SQ0 (s : Sp) (w W : World) : Prop where
  rds0 : Rds w encU s.A s.uses
  smp : Blk W w.heap.size 36 s.cells
  res : Blk W (w.heap.size + 1) 22 #[.int .i64 0, .int .i64 0, .int .i64 0]
  bel : Below w.heap.size w W
theorem SQ0.rds {s : Sp} {w W : World} (h : SQ0 s w W) : Rds W encU s.A s.uses := h.rds0.below h.bel
theorem SQ0.new (s : Sp) (w : World) (hr : Rds w encU s.A s.uses) : SQ0 s w ((w.alloc (.cells s.cells 36)).alloc (.cells #[.int .i64 0, .int .i64 0, .int .i64 0] 22)) := by
  have hz : (w.alloc (.cells s.cells 36)).heap.size = w.heap.size + 1 := by simp
  have hb := Blk.new (w.alloc (.cells s.cells 36)) 22 #[.int .i64 0, .int .i64 0, .int .i64 0]
  rw [hz] at hb
  exact ⟨hr, (Blk.new w 36 s.cells).alloc _, hb, ((Below.refl _ _).alloc (Nat.le_refl _) _).alloc (by simp) _⟩
set_option maxHeartbeats 4000000 in
theorem refOf_any (s : Sp) (id : ByteArray) (x : Us) (w : World) (hr : Rds w encU s.A s.uses) (hl : s.uses.length ≤ 100000) (hs : SortedU s.uses) (hx : usOf s.uses id = x) :
    Calls Try.prog 37 #[.agg s.cells, .string id] w fun e w' => e = .returned (.agg #[.int .i64 x.a0, .int .i64 x.a1, .int .i64 x.a2]) ∧ Below w.heap.size w w' := by
  have HQ := Lib.hid (SQ0.new s w hr)
  have HS := Lib.hid hs
  have HX := Lib.hid hx
  clear hr hs hx
  go_enter Try.func37, Try.ntmps37
  go_wp2_with fail
  go_loopw [5] (fun i wr => ∃ k : Nat, k ≤ s.uses.length ∧ i = .int .i64 k ∧ (∀ x ∈ s.uses.take k, (x.id.toList == id.toList) = false) ∧ SQ0 s w wr) (fun i _ => s.uses.length - (intOf i).toNat)
  case atStart => exact ⟨0, by omega, rfl, by simp, HQ.out⟩
  case round =>
    clear HQ
    obtain ⟨k, hk, rfl, hn, hQ⟩ := hrel
    have HN := Lib.hid hn
    have HQ := Lib.hid hQ
    clear hn hQ
    have cb := HQ.out.smp.cell
    by_cases hlt : k < s.uses.length
    · obtain ⟨b, off, hA, hb, c0, c1, c2, c3⟩ := HQ.out.rds.us hlt
      have dk : decide ((k : Int) < (s.uses.length : Int)) = true := decide_eq_true (by omega)
      have dk3 : (k : Int) < (s.uses.length : Int) := by omega
      have HAt := Lib.hid (fun h => usOf_at (id := id) HS.out hlt h)
      have HNx := Lib.hid (show ∀ h : (s.uses[k].id.toList == id.toList) = false, ∀ x ∈ s.uses.take (k + 1), (x.id.toList == id.toList) = false from fun h x hx => by
        rw [List.take_succ_eq_append_getElem hlt] at hx
        rcases List.mem_append.1 hx with h1 | h1
        · exact HN.out x h1
        · have e : x = s.uses[k] := by simpa using h1
          rw [e]; exact h)
      generalize s.uses[k] = y at *
      clear hb
      cases he : (y.id.toList == id.toList)
      · have HNn := Lib.hid (HNx.out he)
        clear HAt HNx HN
        go_wp2_with fail
        go_roundw
        case rel => exact ⟨k + 1, by omega, by go_num, HNn.out, HQ.out⟩
        case measure => simp [intOf]; omega
      · have HE : Hid (y = x) := by have := HAt.out he; rw [HX.out] at this; exact this.symm
        clear HAt HNx HN
        go_wp2_with (refine wl_store_blk rfl 22 (.tmp 4) (.tmp 26) rfl (w.heap.size + 1) 22 #[.int .i64 0, .int .i64 0, .int .i64 0] #[.int .i64 y.a0, .int .i64 y.a1, .int .i64 y.a2] rfl rfl HQ.out.res rfl sz3 (by simp [Value.oneCell']) ?_; intro w5 hR5 hg5 hs5)
        have hl5 := hR5.cell
        exact bodyPost_ret (v := .agg #[.int .i64 y.a0, .int .i64 y.a1, .int .i64 y.a2]) (by simp [results, Try.results37, go_sem, hl5]) rfl ⟨by rw [HE.out], HQ.out.bel.grown hg5 HQ.out.bel.size (by intro k hk; cases hk; omega)⟩
    · obtain rfl : k = s.uses.length := by omega
      have dk : decide ((s.uses.length : Int) < (s.uses.length : Int)) = false := by simp
      have HE : Hid (x = ⟨⟨#[]⟩, 0, 0, 0⟩) := by have := usOf_none (l := s.uses) (id := id) (by have := HN.out; rwa [List.take_length] at this); rw [HX.out] at this; exact this
      clear HN hk hlt
      go_wp2_with (refine wl_store_blk rfl 22 (.tmp 4) (.tmp 27) rfl (w.heap.size + 1) 22 #[.int .i64 0, .int .i64 0, .int .i64 0] #[.int .i64 0, .int .i64 0, .int .i64 0] rfl rfl HQ.out.res rfl sz3 (by simp [Value.oneCell']) ?_; intro w5 hR5 hg5 hs5)
      have hl5 := hR5.cell
      exact bodyPost_ret (v := .agg #[.int .i64 0, .int .i64 0, .int .i64 0]) (by simp [results, Try.results37, go_sem, hl5]) rfl ⟨by rw [HE.out], HQ.out.bel.grown hg5 HQ.out.bel.size (by intro k hk; cases hk; omega)⟩
end Go.Proofs.Ytlnpmdchhmbblaa
