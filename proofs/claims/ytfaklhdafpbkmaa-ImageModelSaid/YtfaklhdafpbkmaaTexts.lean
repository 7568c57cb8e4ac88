/- Slices of texts: Has, SameTexts, Names. -/
import Derived.Test.YtfaklhdafpbkmaaBase
import Derived.Test.YtfaklhdafpbkmaaProg
import Derived.WalkKit
import Derived.WalkSpells
import Derived.WalkLawsBesides
import Derived.Lib.Hide
import Derived.BigQuiet
import Derived.Deep.QuietTactic
namespace Go.Proofs.Ytfaklhdafpbkmaa
open Go.RowKit

def encS : Enc ByteArray 1 := ⟨fun s => [.string s], fun _ => rfl, fun _ u hu => by simp at hu; subst hu; rfl, by decide⟩
theorem Rds.str {w : World} {A : Option Addr} {l : List ByteArray} (h : Rds w encS A l) {i : Nat} (hi : i < l.length) : ∃ b off, A = some ⟨b, off, none⟩ ∧ b < w.heap.size ∧ w.cell? ⟨b, off + i, none⟩ = some (.string l[i]) := by
  obtain ⟨b, off, e, hb, hc⟩ := h.at_ hi
  have := hc 0 (.string l[i]) rfl
  exact ⟨b, off, e, hb, by simpa using this⟩

/-- is a text one of these? -/
def hasB (l : List ByteArray) (s : ByteArray) : Bool := l.any fun t => t.toList == s.toList
theorem hasB_yes (l : List ByteArray) (s : ByteArray) (k : Nat) (hk : k < l.length) (h : (l[k].toList == s.toList) = true) : hasB l s = true := List.any_eq_true.2 ⟨l[k], List.getElem_mem hk, h⟩
theorem hasB_next (l : List ByteArray) (s : ByteArray) (k : Nat) (hk : k < l.length) (h0 : hasB (l.take k) s = false) (h : (l[k].toList == s.toList) = false) : hasB (l.take (k + 1)) s = false := by
  unfold hasB at *
  rw [List.take_succ_eq_append_getElem hk, List.any_append, h0, List.any_cons, h]; rfl

theorem has_any (l : List ByteArray) (s : ByteArray) (A : Option Addr) (c : Nat) (w : World) (hr : Rds w encS A l) (hm : l.length ≤ 9223372036854775807) :
    Calls Try.prog 27 #[.slice A l.length c, .string s] w fun e w' => e = .returned (.bool (hasB l s)) ∧ w = w' := by
  have HR := Lib.hid hr
  clear hr
  go_enter Try.func27, Try.ntmps27
  go_wp2_with fail
  go_loop [5] (fun i => ∃ k : Nat, k ≤ l.length ∧ i = .int .i64 k ∧ hasB (l.take k) s = false) (fun i => l.length - (intOf i).toNat)
  case atStart => exact ⟨0, by omega, rfl, rfl⟩
  case round =>
    obtain ⟨k, hk, rfl, h0⟩ := hrel
    have H0 := Lib.hid h0
    clear h0
    by_cases hlt : k < l.length
    · obtain ⟨b, off, rfl, hb, hcell⟩ := HR.out.str hlt
      have dk : decide ((k : Int) < (l.length : Int)) = true := decide_eq_true (by omega)
      have dk2 : (k : Int) < (l.length : Int) := by omega
      cases he : (l[k].toList == s.toList)
      · have HN := Lib.hid (hasB_next l s k hlt H0.out he)
        generalize l[k] = t at *
        go_wp2_with fail
        go_round
        case rel => exact ⟨k + 1, by omega, by go_num, HN.out⟩
        case measure => simp [intOf]; omega
      · have HY := Lib.hid (hasB_yes l s k hlt he)
        generalize l[k] = t at *
        go_wp2_with fail
        go_ret
        exact ⟨ret_bool HY.out.symm, rfl⟩
    · obtain rfl : k = l.length := by omega
      have HF := Lib.hid (show hasB l s = false by have := H0.out; rwa [List.take_length] at this)
      have dk : decide ((l.length : Int) < (l.length : Int)) = false := by simp
      go_wp2_with fail
      go_ret
      exact ⟨ret_bool HF.out.symm, rfl⟩

/-- are texts few, and short? -/
def namesB (l : List ByteArray) : Bool := (l.take 100).all (fun t => decide (t.size ≤ 60)) && decide (l.length ≤ 60)
theorem namesB_no (l : List ByteArray) (k : Nat) (hk : k < l.length) (h2 : k < 100) (h : (60 : Int) < l[k].size) : namesB l = false := by
  unfold namesB
  have : (l.take 100).all (fun t => decide (t.size ≤ 60)) = false := by
    rw [List.all_eq_false]
    exact ⟨l[k], List.mem_take_iff_getElem.2 ⟨k, by omega, rfl⟩, by simp; omega⟩
  rw [this]; rfl
theorem namesB_yes (l : List ByteArray) (k : Nat) (hk : k ≤ l.length) (h2 : k ≤ 100) (he : ¬ (k < l.length ∧ k < 100)) (h : (l.take k).all (fun t => decide (t.size ≤ 60)) = true) : namesB l = decide ((l.length : Int) ≤ 60) := by
  unfold namesB
  have e : l.take 100 = l.take k := by
    rcases Nat.lt_or_ge k 100 with h3 | h3
    · obtain rfl : k = l.length := by omega
      rw [List.take_of_length_le (by omega), List.take_of_length_le (Nat.le_refl _)]
    · obtain rfl : k = 100 := by omega
      rfl
  rw [e, h, Bool.true_and]
  congr 1
  apply propext
  omega
theorem allsnoc {α : Type} (f : α → Bool) (l : List α) (k : Nat) (hk : k < l.length) (h : (l.take k).all f = true) (h2 : f l[k] = true) : (l.take (k + 1)).all f = true := by
  rw [List.take_succ_eq_append_getElem hk, List.all_append, h, List.all_cons, h2]; rfl
theorem names_any (l : List ByteArray) (A : Option Addr) (c : Nat) (w : World) (hr : Rds w encS A l) (hm : l.length ≤ 9223372036854775807) :
    Calls Try.prog 19 #[.slice A l.length c] w fun e w' => e = .returned (.bool (namesB l)) ∧ w = w' := by
  have HR := Lib.hid hr
  clear hr
  go_enter Try.func19, Try.ntmps19
  go_wp2_with fail
  go_loop [3] (fun i => ∃ k : Nat, k ≤ l.length ∧ k ≤ 100 ∧ i = .int .i64 k ∧ (l.take k).all (fun t => decide (t.size ≤ 60)) = true) (fun i => l.length - (intOf i).toNat)
  case atStart => exact ⟨0, by omega, by omega, rfl, rfl⟩
  case round =>
    obtain ⟨k, hk, hk2, rfl, h0⟩ := hrel
    have H0 := Lib.hid h0
    clear h0
    by_cases hlt : k < l.length ∧ k < 100
    · obtain ⟨h1, h2⟩ := hlt
      obtain ⟨b, off, rfl, hb, hcell⟩ := HR.out.str h1
      have dk : decide ((k : Int) < (l.length : Int)) = true := decide_eq_true (by omega)
      have dk1 : decide ((k : Int) < 100) = true := decide_eq_true (by omega)
      have dk2 : (k : Int) < (l.length : Int) := by omega
      by_cases he : (60 : Int) < l[k].size
      · have HN := Lib.hid (namesB_no l k h1 h2 he)
        generalize l[k] = t at *
        go_wp2_with fail
        go_ret
        exact ⟨ret_bool HN.out.symm, rfl⟩
      · have HY := Lib.hid (allsnoc (fun t : ByteArray => decide (t.size ≤ 60)) l k h1 H0.out (decide_eq_true (by omega)))
        have he2 : (l[k].size : Int) ≤ 60 := by omega
        generalize l[k] = t at *
        clear he
        go_wp2_with fail
        go_round
        case rel => exact ⟨k + 1, by omega, by omega, by go_num, HY.out⟩
        case measure => simp [intOf]; omega
    · have HF := Lib.hid (namesB_yes l k hk hk2 hlt H0.out)
      by_cases h1 : k < l.length
      · have dk : decide ((k : Int) < (l.length : Int)) = true := decide_eq_true (by omega)
        have dk1 : decide ((k : Int) < 100) = false := decide_eq_false (by omega)
        clear hlt
        go_wp2_with fail
        go_ret
        exact ⟨ret_bool HF.out.symm, rfl⟩
      · have dk : decide ((k : Int) < (l.length : Int)) = false := decide_eq_false (by omega)
        clear hlt
        go_wp2_with fail
        go_ret
        exact ⟨ret_bool HF.out.symm, rfl⟩

theorem toList_inj {a b : ByteArray} (h : (a.toList == b.toList) = true) : a = b := by
  have h := eq_of_beq h
  rw [ByteArray.toList_eq, ByteArray.toList_eq] at h
  obtain ⟨⟨x⟩⟩ := a
  obtain ⟨⟨y⟩⟩ := b
  simp only at h
  rw [h]
theorem take_eq_next {l m : List ByteArray} {k : Nat} (hk : k < l.length) (hm : k < m.length) (h : l.take k = m.take k) (he : l[k] = m[k]) : l.take (k + 1) = m.take (k + 1) := by
  rw [List.take_succ_eq_append_getElem hk, List.take_succ_eq_append_getElem hm, h, he]
theorem sameTexts_any (l m : List ByteArray) (A B : Option Addr) (c d : Nat) (w : World) (hr : Rds w encS A l) (hs : Rds w encS B m) (hl : l.length ≤ 9223372036854775807) (hm : m.length ≤ 9223372036854775807) :
    Calls Try.prog 20 #[.slice A l.length c, .slice B m.length d] w fun e w' => e = .returned (.bool (decide (l = m))) ∧ ∃ n, w' = w.drewN n := by
  by_cases hlm : l.length = m.length
  · have HR := Lib.hid hr
    have HS := Lib.hid hs
    have HL := Lib.hid hlm
    have dn : ((l.length : Int) != (m.length : Int)) = false := by rw [hlm]; simp
    clear hr hs hlm
    go_enter Try.func20, Try.ntmps20
    go_wp2_with fail
    go_loopw [5] (fun i wr => ∃ k n : Nat, k ≤ l.length ∧ i = .int .i64 k ∧ l.take k = m.take k ∧ wr = w.drewN n) (fun i _ => l.length - (intOf i).toNat)
    case atStart => exact ⟨0, 0, by omega, rfl, rfl, rfl⟩
    case round =>
      obtain ⟨k, n, hk, rfl, h0, rfl⟩ := hrel
      have H0 := Lib.hid h0
      clear h0
      by_cases hlt : k < l.length
      · have hlt2 : k < m.length := by have := HL.out; omega
        obtain ⟨b, off, rfl, hb, hcell⟩ := HR.out.str hlt
        obtain ⟨b2, off2, rfl, hb2, hcell2⟩ := HS.out.str hlt2
        have dk : decide ((k : Int) < (l.length : Int)) = true := decide_eq_true (by omega)
        have dk2 : (k : Int) < (l.length : Int) := by omega
        have dk3 : (k : Int) < (m.length : Int) := by omega
        cases he : (l[k].toList == m[k].toList)
        · have HN : Hid (decide (l = m) = false) := by
            show decide (l = m) = false
            refine decide_eq_false fun e => ?_
            subst e
            simp at he
          have hne : (l[k].toList != m[k].toList) = true := by unfold bne; rw [he]; rfl
          generalize l[k] = t at *
          generalize m[k] = u at *
          go_wp2_with fail
          go_quiet (fail)
          go_wp2_with fail
          go_ret
          exact ⟨ret_bool HN.out.symm, _, World.drewN_drewN _ _ _⟩
        · have HY := Lib.hid (take_eq_next hlt hlt2 H0.out (toList_inj he))
          have hne : (l[k].toList != m[k].toList) = false := by unfold bne; rw [he]; rfl
          generalize l[k] = t at *
          generalize m[k] = u at *
          go_wp2_with fail
          go_quiet (fail)
          go_wp2_with fail
          go_roundw
          case rel => exact ⟨k + 1, _, by omega, by go_num, HY.out, rfl⟩
          case measure => simp [intOf]; omega
      · obtain rfl : k = l.length := by omega
        have HF : Hid (decide (l = m) = true) := by
          show decide (l = m) = true
          refine decide_eq_true ?_
          have := H0.out
          rwa [List.take_length, HL.out, List.take_length] at this
        have dk : decide ((l.length : Int) < (l.length : Int)) = false := by simp
        go_wp2_with fail
        go_ret
        exact ⟨ret_bool HF.out.symm, _, rfl⟩
  · have HN : Hid (decide (l = m) = false) := by
      show decide (l = m) = false
      exact decide_eq_false fun e => hlm (by rw [e])
    have dn : ((l.length : Int) != (m.length : Int)) = true := by rw [bne_iff_ne]; omega
    clear hlm
    go_enter Try.func20, Try.ntmps20
    go_wp2_with fail
    go_ret
    exact ⟨ret_bool HN.out.symm, 0, rfl⟩
theorem below_ofDrewN {w w' : World} (h : ∃ n, w' = w.drewN n) : Below w.heap.size w w' := by
  obtain ⟨n, rfl⟩ := h
  exact ⟨rfl, rfl, rfl, Nat.le_refl _, fun _ _ => rfl⟩
theorem sameTexts_b (l m : List ByteArray) (A B : Option Addr) (c d : Nat) (w : World) (hr : Rds w encS A l) (hs : Rds w encS B m) (hl : l.length ≤ 9223372036854775807) (hm : m.length ≤ 9223372036854775807) :
    Calls Try.prog 20 #[.slice A l.length c, .slice B m.length d] w fun e w' => e = .returned (.bool (decide (l = m))) ∧ Below w.heap.size w w' :=
  (sameTexts_any l m A B c d w hr hs hl hm).mono fun _ _ ⟨h1, h2⟩ => ⟨h1, below_ofDrewN h2⟩
end Go.Proofs.Ytfaklhdafpbkmaa
