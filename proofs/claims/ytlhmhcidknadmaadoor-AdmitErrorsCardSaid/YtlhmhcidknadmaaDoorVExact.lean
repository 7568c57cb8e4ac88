/- bilgeref21.Exact: the exact sums; a sum that stops at the greatest number fits just if the exact one does. -/
import Derived.Test.YtlhmhcidknadmaaDoorVGen
import Derived.Laws.Bits64
namespace Go.Proofs.YtlhmhcidknadmaaDoor
open Go.RowKit

def mn (t : Int) : Int := if t ≤ most then t else most
theorem satAdd_mn (t q : Int) (ht : 0 ≤ t) (hq : 0 ≤ q) : satAdd (mn t) q = mn (t + q) := by
  unfold satAdd nat0 mn most
  repeat' split
  all_goals omega
theorem fit1_mn (r t : Int) (ht : 0 ≤ t) : fit1 r (mn t) = decide (t < most ∧ t ≤ r) := by
  unfold fit1 mn
  rw [Bool.eq_iff_iff]
  unfold most
  simp only [Bool.and_eq_true, Bool.not_eq_true', beq_eq_false_iff_ne, decide_eq_false_iff_not, decide_eq_true_eq]
  split <;> omega
def ex0 (t : Int) (l : List Pd) : Int := l.foldl (fun s p => s + p.q0) t
theorem ex0_snoc (l : List Pd) (k : Nat) (h : k < l.length) : ex0 0 (l.take (k + 1)) = ex0 0 (l.take k) + l[k].q0 := by
  unfold ex0
  rw [List.take_succ_eq_append_getElem h, List.foldl_append]
  rfl
theorem ex0_nonneg (l : List Pd) : ∀ t : Int, 0 ≤ t → (∀ x ∈ l, 0 ≤ x.q0) → 0 ≤ ex0 t l := by
  induction l with
  | nil => intro t h _; exact h
  | cons p l ih =>
    intro t h hq
    have := hq p (by simp)
    exact ih (t + p.q0) (by omega) fun x hx => hq x (by simp [hx])
def ex1 (t : Int) (l : List Pd) : Int := l.foldl (fun s p => s + p.q1) t
theorem ex1_snoc (l : List Pd) (k : Nat) (h : k < l.length) : ex1 0 (l.take (k + 1)) = ex1 0 (l.take k) + l[k].q1 := by
  unfold ex1
  rw [List.take_succ_eq_append_getElem h, List.foldl_append]
  rfl
theorem ex1_nonneg (l : List Pd) : ∀ t : Int, 0 ≤ t → (∀ x ∈ l, 0 ≤ x.q1) → 0 ≤ ex1 t l := by
  induction l with
  | nil => intro t h _; exact h
  | cons p l ih =>
    intro t h hq
    have := hq p (by simp)
    exact ih (t + p.q1) (by omega) fun x hx => hq x (by simp [hx])
def ex2 (t : Int) (l : List Pd) : Int := l.foldl (fun s p => s + p.q2) t
theorem ex2_snoc (l : List Pd) (k : Nat) (h : k < l.length) : ex2 0 (l.take (k + 1)) = ex2 0 (l.take k) + l[k].q2 := by
  unfold ex2
  rw [List.take_succ_eq_append_getElem h, List.foldl_append]
  rfl
theorem ex2_nonneg (l : List Pd) : ∀ t : Int, 0 ≤ t → (∀ x ∈ l, 0 ≤ x.q2) → 0 ≤ ex2 t l := by
  induction l with
  | nil => intro t h _; exact h
  | cons p l ih =>
    intro t h hq
    have := hq p (by simp)
    exact ih (t + p.q2) (by omega) fun x hx => hq x (by simp [hx])
theorem fold_mn (l : List Pd) : ∀ (t0 t1 t2 : Int), 0 ≤ t0 → 0 ≤ t1 → 0 ≤ t2 → (∀ x ∈ l, 0 ≤ x.q0 ∧ 0 ≤ x.q1 ∧ 0 ≤ x.q2) → l.foldl S3.add ⟨mn t0, mn t1, mn t2⟩ = ⟨mn (ex0 t0 l), mn (ex1 t1 l), mn (ex2 t2 l)⟩ := by
  induction l with
  | nil => intro t0 t1 t2 _ _ _ _; rfl
  | cons p l ih =>
    intro t0 t1 t2 h0 h1 h2 hq
    obtain ⟨q0, q1, q2⟩ := hq p (by simp)
    have e : S3.add ⟨mn t0, mn t1, mn t2⟩ p = ⟨mn (t0 + p.q0), mn (t1 + p.q1), mn (t2 + p.q2)⟩ := by
      unfold S3.add
      rw [satAdd_mn _ _ h0 q0, satAdd_mn _ _ h1 q1, satAdd_mn _ _ h2 q2]
    rw [List.foldl_cons, e, ih _ _ _ (by omega) (by omega) (by omega) fun x hx => hq x (by simp [hx])]
    rfl
theorem fitsB_exact (room : S3) (l : List Pd) (hq : ∀ x ∈ l, 0 ≤ x.q0 ∧ 0 ≤ x.q1 ∧ 0 ≤ x.q2) : fitsB room l = (decide (ex0 0 l < most ∧ ex0 0 l ≤ room.a) && (decide (ex1 0 l < most ∧ ex1 0 l ≤ room.b) && decide (ex2 0 l < most ∧ ex2 0 l ≤ room.c))) := by
  unfold fitsB S3.fits sumsOf
  have h := fold_mn l 0 0 0 (by omega) (by omega) (by omega) hq
  rw [show (⟨mn 0, mn 0, mn 0⟩ : S3) = ⟨0, 0, 0⟩ from rfl] at h
  rw [h, fit1_mn _ _ (ex0_nonneg l 0 (by omega) fun x hx => (hq x hx).1), fit1_mn _ _ (ex1_nonneg l 0 (by omega) fun x hx => (hq x hx).2.1), fit1_mn _ _ (ex2_nonneg l 0 (by omega) fun x hx => (hq x hx).2.2)]
def GivesX (S : Int) (w : World) (e : Ending) (w' : World) : Prop := ∃ H N : Int, e = .returned (.tuple #[.int .u64 H, .int .u64 N]) ∧ H * 18446744073709551616 + N = S ∧ 0 ≤ H ∧ 0 ≤ N ∧ N < 18446744073709551616 ∧ w = w'
set_option maxRecDepth 100000 in
set_option maxHeartbeats 8000000 in
theorem exact0_any (l : List Pd) (A : Option Addr) (c : Nat) (w : World) (hr : Rds w encP A l) (hl : l.length ≤ 64) (hq : ∀ x ∈ l, 0 ≤ x.q0 ∧ x.q0 ≤ 9223372036854775807) :
    Calls Tryd.prog 27 #[.slice A l.length c, .int .i64 0] w (GivesX (ex0 0 l) w) := by
  have HR := Lib.hid hr
  have HQ := Lib.hid hq
  clear hr hq
  go_enter Tryd.func27, Tryd.ntmps27
  go_wp2_with fail
  go_loopw [6, 7, 8, 9] (fun hh nn ii xx wr => ∃ (i : Nat) (H N : Int), i ≤ l.length ∧ ii = .int .i64 i ∧ hh = .int .u64 H ∧ nn = .int .u64 N ∧ H * 18446744073709551616 + N = ex0 0 (l.take i) ∧ 0 ≤ H ∧ H ≤ i ∧ 0 ≤ N ∧ N < 18446744073709551616 ∧ wr = w) (fun _ _ ii _ _ => l.length - (intOf ii).toNat)
  case atStart => exact ⟨0, 0, 0, by omega, rfl, rfl, rfl, rfl, by omega, by omega, by omega, by omega, rfl⟩
  case round =>
    obtain ⟨i, H, N, hi, rfl, rfl, rfl, hs, hH0, hHi, hN0, hN1, rfl⟩ := hrel
    have HS := Lib.hid hs
    clear hs
    by_cases hlt : i < l.length
    · have dk : decide ((i : Int) < (l.length : Int)) = true := decide_eq_true (by omega)
      have dk2 : (i : Int) < (l.length : Int) := by omega
      obtain ⟨b, off, hA⟩ := HR.out.some_ hlt
      obtain rfl : A = some ⟨b, off, none⟩ := hA
      have HSN := Lib.hid (ex0_snoc l i hlt)
      obtain ⟨h0, h1⟩ := HQ.out _ (List.getElem_mem hlt)
      obtain ⟨x0, x1, x2, x3, x4, x5, x6, x7, x8, x9, x10⟩ := HR.out.pdAt (Below.refl _ _) (List.getElem?_eq_getElem hlt)
      clear x0 x1 x2 x4 x5 x6 x7 x8 x9 x10
      generalize l[i] = x at *
      obtain ⟨q, hqq⟩ : ∃ q, x.q0 = q := ⟨_, rfl⟩
      rw [hqq] at h0 h1 x3 HSN
      clear hqq
      have hwq : IntKind.u64.wrap q = q := by rw [IntKind.wrap_u64]; omega
      by_cases hc : N + q < 18446744073709551616
      · have hwn : IntKind.u64.wrap (N + q) = N + q := by rw [IntKind.wrap_u64]; omega
        have dn : decide (N + q < q) = false := decide_eq_false (by omega)
        have HN := Lib.hid (show H * 18446744073709551616 + (N + q) = ex0 0 (l.take (i + 1)) by rw [HSN.out, ← HS.out]; omega)
        go_wp2_with fail
        go_roundw
        case rel => exact ⟨i + 1, H, N + q, by omega, by go_num, rfl, rfl, HN.out, hH0, by omega, by omega, hc, by first | rfl | trivial⟩
        case measure => simp [intOf]; omega
      · have hwn : IntKind.u64.wrap (N + q) = N + q - 18446744073709551616 := by rw [IntKind.wrap_u64]; omega
        have dn : decide (N + q - 18446744073709551616 < q) = true := decide_eq_true (by omega)
        have hwh : IntKind.u64.wrap (H + 1) = H + 1 := by rw [IntKind.wrap_u64]; omega
        have HN := Lib.hid (show (H + 1) * 18446744073709551616 + (N + q - 18446744073709551616) = ex0 0 (l.take (i + 1)) by rw [HSN.out, ← HS.out]; omega)
        go_wp2_with fail
        go_roundw
        case rel => exact ⟨i + 1, H + 1, N + q - 18446744073709551616, by omega, by go_num, rfl, rfl, HN.out, by omega, by omega, by omega, by omega, by first | rfl | trivial⟩
        case measure => simp [intOf]; omega
    · obtain rfl : i = l.length := by omega
      have dk : decide ((l.length : Int) < (l.length : Int)) = false := by simp
      rw [List.take_length] at HS
      go_wp2_with fail
      go_ret2
      exact ⟨H, N, rfl, HS.out, hH0, hN0, hN1, rfl⟩
set_option maxRecDepth 100000 in
set_option maxHeartbeats 8000000 in
theorem exact1_any (l : List Pd) (A : Option Addr) (c : Nat) (w : World) (hr : Rds w encP A l) (hl : l.length ≤ 64) (hq : ∀ x ∈ l, 0 ≤ x.q1 ∧ x.q1 ≤ 9223372036854775807) :
    Calls Tryd.prog 27 #[.slice A l.length c, .int .i64 1] w (GivesX (ex1 0 l) w) := by
  have HR := Lib.hid hr
  have HQ := Lib.hid hq
  clear hr hq
  go_enter Tryd.func27, Tryd.ntmps27
  go_wp2_with fail
  go_loopw [6, 7, 8, 9] (fun hh nn ii xx wr => ∃ (i : Nat) (H N : Int), i ≤ l.length ∧ ii = .int .i64 i ∧ hh = .int .u64 H ∧ nn = .int .u64 N ∧ H * 18446744073709551616 + N = ex1 0 (l.take i) ∧ 0 ≤ H ∧ H ≤ i ∧ 0 ≤ N ∧ N < 18446744073709551616 ∧ wr = w) (fun _ _ ii _ _ => l.length - (intOf ii).toNat)
  case atStart => exact ⟨0, 0, 0, by omega, rfl, rfl, rfl, rfl, by omega, by omega, by omega, by omega, rfl⟩
  case round =>
    obtain ⟨i, H, N, hi, rfl, rfl, rfl, hs, hH0, hHi, hN0, hN1, rfl⟩ := hrel
    have HS := Lib.hid hs
    clear hs
    by_cases hlt : i < l.length
    · have dk : decide ((i : Int) < (l.length : Int)) = true := decide_eq_true (by omega)
      have dk2 : (i : Int) < (l.length : Int) := by omega
      obtain ⟨b, off, hA⟩ := HR.out.some_ hlt
      obtain rfl : A = some ⟨b, off, none⟩ := hA
      have HSN := Lib.hid (ex1_snoc l i hlt)
      obtain ⟨h0, h1⟩ := HQ.out _ (List.getElem_mem hlt)
      obtain ⟨x0, x1, x2, x3, x4, x5, x6, x7, x8, x9, x10⟩ := HR.out.pdAt (Below.refl _ _) (List.getElem?_eq_getElem hlt)
      clear x0 x1 x2 x3 x5 x6 x7 x8 x9 x10
      generalize l[i] = x at *
      obtain ⟨q, hqq⟩ : ∃ q, x.q1 = q := ⟨_, rfl⟩
      rw [hqq] at h0 h1 x4 HSN
      clear hqq
      have hwq : IntKind.u64.wrap q = q := by rw [IntKind.wrap_u64]; omega
      by_cases hc : N + q < 18446744073709551616
      · have hwn : IntKind.u64.wrap (N + q) = N + q := by rw [IntKind.wrap_u64]; omega
        have dn : decide (N + q < q) = false := decide_eq_false (by omega)
        have HN := Lib.hid (show H * 18446744073709551616 + (N + q) = ex1 0 (l.take (i + 1)) by rw [HSN.out, ← HS.out]; omega)
        go_wp2_with fail
        go_roundw
        case rel => exact ⟨i + 1, H, N + q, by omega, by go_num, rfl, rfl, HN.out, hH0, by omega, by omega, hc, by first | rfl | trivial⟩
        case measure => simp [intOf]; omega
      · have hwn : IntKind.u64.wrap (N + q) = N + q - 18446744073709551616 := by rw [IntKind.wrap_u64]; omega
        have dn : decide (N + q - 18446744073709551616 < q) = true := decide_eq_true (by omega)
        have hwh : IntKind.u64.wrap (H + 1) = H + 1 := by rw [IntKind.wrap_u64]; omega
        have HN := Lib.hid (show (H + 1) * 18446744073709551616 + (N + q - 18446744073709551616) = ex1 0 (l.take (i + 1)) by rw [HSN.out, ← HS.out]; omega)
        go_wp2_with fail
        go_roundw
        case rel => exact ⟨i + 1, H + 1, N + q - 18446744073709551616, by omega, by go_num, rfl, rfl, HN.out, by omega, by omega, by omega, by omega, by first | rfl | trivial⟩
        case measure => simp [intOf]; omega
    · obtain rfl : i = l.length := by omega
      have dk : decide ((l.length : Int) < (l.length : Int)) = false := by simp
      rw [List.take_length] at HS
      go_wp2_with fail
      go_ret2
      exact ⟨H, N, rfl, HS.out, hH0, hN0, hN1, rfl⟩
set_option maxRecDepth 100000 in
set_option maxHeartbeats 8000000 in
theorem exact2_any (l : List Pd) (A : Option Addr) (c : Nat) (w : World) (hr : Rds w encP A l) (hl : l.length ≤ 64) (hq : ∀ x ∈ l, 0 ≤ x.q2 ∧ x.q2 ≤ 9223372036854775807) :
    Calls Tryd.prog 27 #[.slice A l.length c, .int .i64 2] w (GivesX (ex2 0 l) w) := by
  have HR := Lib.hid hr
  have HQ := Lib.hid hq
  clear hr hq
  go_enter Tryd.func27, Tryd.ntmps27
  go_wp2_with fail
  go_loopw [6, 7, 8, 9] (fun hh nn ii xx wr => ∃ (i : Nat) (H N : Int), i ≤ l.length ∧ ii = .int .i64 i ∧ hh = .int .u64 H ∧ nn = .int .u64 N ∧ H * 18446744073709551616 + N = ex2 0 (l.take i) ∧ 0 ≤ H ∧ H ≤ i ∧ 0 ≤ N ∧ N < 18446744073709551616 ∧ wr = w) (fun _ _ ii _ _ => l.length - (intOf ii).toNat)
  case atStart => exact ⟨0, 0, 0, by omega, rfl, rfl, rfl, rfl, by omega, by omega, by omega, by omega, rfl⟩
  case round =>
    obtain ⟨i, H, N, hi, rfl, rfl, rfl, hs, hH0, hHi, hN0, hN1, rfl⟩ := hrel
    have HS := Lib.hid hs
    clear hs
    by_cases hlt : i < l.length
    · have dk : decide ((i : Int) < (l.length : Int)) = true := decide_eq_true (by omega)
      have dk2 : (i : Int) < (l.length : Int) := by omega
      obtain ⟨b, off, hA⟩ := HR.out.some_ hlt
      obtain rfl : A = some ⟨b, off, none⟩ := hA
      have HSN := Lib.hid (ex2_snoc l i hlt)
      obtain ⟨h0, h1⟩ := HQ.out _ (List.getElem_mem hlt)
      obtain ⟨x0, x1, x2, x3, x4, x5, x6, x7, x8, x9, x10⟩ := HR.out.pdAt (Below.refl _ _) (List.getElem?_eq_getElem hlt)
      clear x0 x1 x2 x3 x4 x6 x7 x8 x9 x10
      generalize l[i] = x at *
      obtain ⟨q, hqq⟩ : ∃ q, x.q2 = q := ⟨_, rfl⟩
      rw [hqq] at h0 h1 x5 HSN
      clear hqq
      have hwq : IntKind.u64.wrap q = q := by rw [IntKind.wrap_u64]; omega
      by_cases hc : N + q < 18446744073709551616
      · have hwn : IntKind.u64.wrap (N + q) = N + q := by rw [IntKind.wrap_u64]; omega
        have dn : decide (N + q < q) = false := decide_eq_false (by omega)
        have HN := Lib.hid (show H * 18446744073709551616 + (N + q) = ex2 0 (l.take (i + 1)) by rw [HSN.out, ← HS.out]; omega)
        go_wp2_with fail
        go_roundw
        case rel => exact ⟨i + 1, H, N + q, by omega, by go_num, rfl, rfl, HN.out, hH0, by omega, by omega, hc, by first | rfl | trivial⟩
        case measure => simp [intOf]; omega
      · have hwn : IntKind.u64.wrap (N + q) = N + q - 18446744073709551616 := by rw [IntKind.wrap_u64]; omega
        have dn : decide (N + q - 18446744073709551616 < q) = true := decide_eq_true (by omega)
        have hwh : IntKind.u64.wrap (H + 1) = H + 1 := by rw [IntKind.wrap_u64]; omega
        have HN := Lib.hid (show (H + 1) * 18446744073709551616 + (N + q - 18446744073709551616) = ex2 0 (l.take (i + 1)) by rw [HSN.out, ← HS.out]; omega)
        go_wp2_with fail
        go_roundw
        case rel => exact ⟨i + 1, H + 1, N + q - 18446744073709551616, by omega, by go_num, rfl, rfl, HN.out, by omega, by omega, by omega, by omega, by first | rfl | trivial⟩
        case measure => simp [intOf]; omega
    · obtain rfl : i = l.length := by omega
      have dk : decide ((l.length : Int) < (l.length : Int)) = false := by simp
      rw [List.take_length] at HS
      go_wp2_with fail
      go_ret2
      exact ⟨H, N, rfl, HS.out, hH0, hN0, hN1, rfl⟩
end Go.Proofs.YtlhmhcidknadmaaDoor
