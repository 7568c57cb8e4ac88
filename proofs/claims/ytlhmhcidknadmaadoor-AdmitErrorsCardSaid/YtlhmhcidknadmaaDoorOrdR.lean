/- Texts: their order, and the words of slices of texts; SameTexts. -/
import Derived.Test.YtlhmhcidknadmaaDoorBase
import Derived.Test.YtlhmhcidknadmaaDoorProg
import Derived.WalkKit
import Derived.WalkSpells
import Derived.WalkLawsBesides
import Derived.Lib.Hide
import Derived.BigQuiet
import Derived.Deep.QuietTactic
import Derived.Sort.Walk0
namespace Go.Proofs.YtlhmhcidknadmaaDoor
open Go.RowKit

def encS : Enc ByteArray 1 := ⟨fun s => [.string s], fun _ => rfl, fun _ u hu => by simp at hu; subst hu; rfl, by decide⟩
theorem Rds.str {w : World} {A : Option Addr} {l : List ByteArray} (h : Rds w encS A l) {i : Nat} (hi : i < l.length) : ∃ b off, A = some ⟨b, off, none⟩ ∧ b < w.heap.size ∧ w.cell? ⟨b, off + i, none⟩ = some (.string l[i]) := by
  obtain ⟨b, off, e, hb, hc⟩ := h.at_ hi
  have := hc 0 (.string l[i]) rfl
  exact ⟨b, off, e, hb, by simpa using this⟩

/-- is a text less than another? -/
def blt (a b : ByteArray) : Bool := Op.bytesLess a.toList b.toList

theorem blt_eq (a b : ByteArray) : blt a b = decide (a.data.toList < b.data.toList) := by
  unfold blt; rw [bytesLess_eq, ByteArray.toList_eq, ByteArray.toList_eq]
theorem blt_irrefl (a : ByteArray) : blt a a = false := by rw [blt_eq]; exact decide_eq_false (List.lt_irrefl _)
theorem blt_trans {a b c : ByteArray} (h1 : blt a b = true) (h2 : blt b c = true) : blt a c = true := by
  rw [blt_eq] at *
  exact decide_eq_true (List.lt_trans (of_decide_eq_true h1) (of_decide_eq_true h2))
theorem data_inj {a b : ByteArray} (h : a.data.toList = b.data.toList) : a = b := by
  obtain ⟨⟨x⟩⟩ := a
  obtain ⟨⟨y⟩⟩ := b
  simp only at h
  rw [h]
theorem blt_total {a b : ByteArray} (h1 : blt a b = false) (h2 : blt b a = false) : a = b := by
  rw [blt_eq] at *
  have h1' := of_decide_eq_false h1
  have h2' := of_decide_eq_false h2
  refine data_inj ?_
  exact List.le_antisymm (List.not_lt.1 h2') (List.not_lt.1 h1')

theorem toList_inj {a b : ByteArray} (h : (a.toList == b.toList) = true) : a = b := by
  have h := eq_of_beq h
  rw [ByteArray.toList_eq, ByteArray.toList_eq] at h
  obtain ⟨⟨x⟩⟩ := a
  obtain ⟨⟨y⟩⟩ := b
  simp only at h
  rw [h]
theorem take_eq_next {l m : List ByteArray} {k : Nat} (hk : k < l.length) (hm : k < m.length) (h : l.take k = m.take k) (he : l[k] = m[k]) : l.take (k + 1) = m.take (k + 1) := by
  rw [List.take_succ_eq_append_getElem hk, List.take_succ_eq_append_getElem hm, h, he]
theorem sameTexts_any (l m : List ByteArray) (A B : Option Addr) (c d : Nat) (w : World) (hr : Rds w encS A l) (hs : Rds w encS B m) (hl : l.length ≤ 9223372036854775807) (hm : m.length ≤ 9223372036854775807) :
    Calls Tryd.prog 28 #[.slice A l.length c, .slice B m.length d] w fun e w' => e = .returned (.bool (decide (l = m))) ∧ ∃ n, w' = w.drewN n := by
  by_cases hlm : l.length = m.length
  · have HR := Lib.hid hr
    have HS := Lib.hid hs
    have HL := Lib.hid hlm
    have dn : ((l.length : Int) != (m.length : Int)) = false := by rw [hlm]; simp
    clear hr hs hlm
    go_enter Tryd.func28, Tryd.ntmps28
    go_wp2_with fail
    go_loopw [5] (fun i wr => ∃ k n : Nat, k ≤ l.length ∧ i = .int .i64 k ∧ l.take k = m.take k ∧ wr = w.drewN n) (fun i _ => l.length - (intOf i).toNat)
    case atStart => exact ⟨0, 0, by omega, rfl, rfl, rfl⟩
    case round =>
      obtain ⟨k, n, hk, rfl, h0, rfl⟩ := hrel
      have H0 := Lib.hid h0
      clear h0
      by_cases hlt : k < l.length
      · have hlt2 : k < m.length := by have := HL.out; omega
        obtain ⟨b, off, rfl, hb, hcell⟩ := HR.out.str hlt
        obtain ⟨b2, off2, rfl, hb2, hcell2⟩ := HS.out.str hlt2
        have dk : decide ((k : Int) < (l.length : Int)) = true := decide_eq_true (by omega)
        have dk2 : (k : Int) < (l.length : Int) := by omega
        have dk3 : (k : Int) < (m.length : Int) := by omega
        cases he : (l[k].toList == m[k].toList)
        · have HN : Hid (decide (l = m) = false) := by
            show decide (l = m) = false
            refine decide_eq_false fun e => ?_
            subst e
            simp at he
          have hne : (l[k].toList != m[k].toList) = true := by unfold bne; rw [he]; rfl
          generalize l[k] = t at *
          generalize m[k] = u at *
          go_wp2_with fail
          go_quiet (fail)
          go_wp2_with fail
          go_ret
          exact ⟨ret_bool HN.out.symm, _, World.drewN_drewN _ _ _⟩
        · have HY := Lib.hid (take_eq_next hlt hlt2 H0.out (toList_inj he))
          have hne : (l[k].toList != m[k].toList) = false := by unfold bne; rw [he]; rfl
          generalize l[k] = t at *
          generalize m[k] = u at *
          go_wp2_with fail
          go_quiet (fail)
          go_wp2_with fail
          go_roundw
          case rel => exact ⟨k + 1, _, by omega, by go_num, HY.out, rfl⟩
          case measure => simp [intOf]; omega
      · obtain rfl : k = l.length := by omega
        have HF : Hid (decide (l = m) = true) := by
          show decide (l = m) = true
          refine decide_eq_true ?_
          have := H0.out
          rwa [List.take_length, HL.out, List.take_length] at this
        have dk : decide ((l.length : Int) < (l.length : Int)) = false := by simp
        go_wp2_with fail
        go_ret
        exact ⟨ret_bool HF.out.symm, _, rfl⟩
  · have HN : Hid (decide (l = m) = false) := by
      show decide (l = m) = false
      exact decide_eq_false fun e => hlm (by rw [e])
    have dn : ((l.length : Int) != (m.length : Int)) = true := by rw [bne_iff_ne]; omega
    clear hlm
    go_enter Tryd.func28, Tryd.ntmps28
    go_wp2_with fail
    go_ret
    exact ⟨ret_bool HN.out.symm, 0, rfl⟩
theorem below_ofDrewN {w w' : World} (h : ∃ n, w' = w.drewN n) : Below w.heap.size w w' := by
  obtain ⟨n, rfl⟩ := h
  exact ⟨rfl, rfl, rfl, Nat.le_refl _, fun _ _ => rfl⟩
theorem sameTexts_b (l m : List ByteArray) (A B : Option Addr) (c d : Nat) (w : World) (hr : Rds w encS A l) (hs : Rds w encS B m) (hl : l.length ≤ 9223372036854775807) (hm : m.length ≤ 9223372036854775807) :
    Calls Tryd.prog 28 #[.slice A l.length c, .slice B m.length d] w fun e w' => e = .returned (.bool (decide (l = m))) ∧ Below w.heap.size w w' :=
  (sameTexts_any l m A B c d w hr hs hl hm).mono fun _ _ ⟨h1, h2⟩ => ⟨h1, below_ofDrewN h2⟩
theorem elemS : Elem Tryd.prog 34 9 1 16 := by
  obtain ⟨i, h1, h2, h3, h4⟩ := info_parts (show (Tryd.prog.info? 9).map (fun i => (i.zero, i.size, i.bytes)) = some (some (.string ⟨#[]⟩), 1, 16) by kernel_rfl)
  exact ⟨Tryd.underlying34, i, _, h1, h2, h3, h4, rfl⟩

end Go.Proofs.YtlhmhcidknadmaaDoor
