/- image.at: where a name stands in a sorted list, or would. -/
import Derived.Test.YtfaklhdafpbkmaaPlaceI
import Derived.Test.YtfaklhdafpbkmaaDead
import Derived.Outline
namespace Go.Proofs.Ytfaklhdafpbkmaa
open Go.RowKit

def SortedN (l : List Im) : Prop := ∀ (i j : Nat) (_ : i < j) (hj : j < l.length), blt (l[i]'(by omega)).name l[j].name = true
def lowerI (l : List Im) (s : ByteArray) : Nat := l.countP fun x => blt x.name s
def isAt (l : List Im) (s : ByteArray) : Bool := match l[lowerI l s]? with | some x => x.name.toList == s.toList | none => false
theorem lowerI_le (l : List Im) (s : ByteArray) : lowerI l s ≤ l.length := List.countP_le_length
theorem countP_bound {α : Type} (p : α → Bool) : ∀ (l : List α) (i : Nat), i ≤ l.length → (∀ (t : Nat) (ht : t < l.length), t < i → p l[t] = true) → (∀ (t : Nat) (ht : t < l.length), i ≤ t → p l[t] = false) → l.countP p = i
  | [], i, hi, _, _ => by simp at hi; simp [hi]
  | a :: r, 0, _, _, h2 => by
    rw [List.countP_eq_zero]
    intro x hx
    obtain ⟨t, ht, rfl⟩ := List.getElem_of_mem hx
    simp [h2 t ht (Nat.zero_le _)]
  | a :: r, i + 1, hi, h1, h2 => by
    have ha : p a = true := h1 0 (by simp) (Nat.succ_pos _)
    rw [List.countP_cons_of_pos ha, countP_bound p r i (by simpa using hi) (fun t ht h => h1 (t + 1) (by simpa using ht) (by omega)) (fun t ht h => h2 (t + 1) (by simpa using ht) (by omega))]
/-- what the search knows: below a all are less, from b on none is -/
structure Srch (l : List Im) (s : ByteArray) (a b : Nat) : Prop where
  le : a ≤ b
  top : b ≤ l.length
  lo : ∀ (t : Nat) (ht : t < l.length), t < a → blt l[t].name s = true
  hi : ∀ (t : Nat) (ht : t < l.length), b ≤ t → blt l[t].name s = false
theorem Srch.start (l : List Im) (s : ByteArray) : Srch l s 0 l.length := ⟨Nat.zero_le _, Nat.le_refl _, fun t _ h => by omega, fun t h h2 => by omega⟩
theorem Srch.up {l : List Im} {s : ByteArray} {a b h : Nat} (hs : SortedN l) (hS : Srch l s a b) (hb : h < b) (hl : h < l.length) (hc : blt l[h].name s = true) : Srch l s (h + 1) b := by
  refine ⟨by omega, hS.top, fun t ht hlt => ?_, hS.hi⟩
  rcases Nat.lt_or_ge t h with h1 | h1
  · exact blt_trans (hs t h h1 hl) hc
  · obtain rfl : t = h := by omega
    exact hc
theorem Srch.down {l : List Im} {s : ByteArray} {a b h : Nat} (hs : SortedN l) (hS : Srch l s a b) (ha : a ≤ h) (hb : h < b) (hl : h < l.length) (hc : blt l[h].name s = false) : Srch l s a h := by
  refine ⟨ha, by omega, hS.lo, fun t ht hge => ?_⟩
  rcases Nat.lt_or_ge h t with h1 | h1
  · cases h2 : blt l[t].name s
    · rfl
    · rw [blt_trans (hs h t h1 ht) h2] at hc; cases hc
  · obtain rfl : t = h := by omega
    exact hc
theorem Srch.done {l : List Im} {s : ByteArray} {a : Nat} (hS : Srch l s a a) : lowerI l s = a := countP_bound _ l a hS.top hS.lo hS.hi
theorem cmp_lt (a b : ByteArray) : (Lib.compareBytes a.data.toList b.data.toList < 0) = (blt a b = true) := by
  rw [blt_eq, decide_eq_true_eq]; exact propext (cmpB_lt _ _).1
theorem cmp_eq (a b : ByteArray) : (Lib.compareBytes a.data.toList b.data.toList = 0) = ((a.toList == b.toList) = true) := by
  rw [beq_iff_eq, ByteArray.toList_eq, ByteArray.toList_eq]; exact propext (cmpB_lt _ _).2

theorem closureAt (x : Im) (s : ByteArray) (W : World) : Calls Try.prog 74 #[.agg #[.string x.name, .int .i64 x.size, .int .i64 x.last], .string s] W fun e w' => e = .returned (.int .i64 (Lib.compareBytes x.name.data.toList s.data.toList)) ∧ Below W.heap.size W w' := by
  have h2 := fun W' => strcmp_any x.name s W'
  generalize Lib.compareBytes x.name.data.toList s.data.toList = r2 at *
  have H2 := Lib.hid h2
  clear h2
  have HB := Lib.hid ((Below.refl W.heap.size W).alloc (Nat.le_refl _) (.cells #[.string x.name, .int .i64 x.size, .int .i64 x.last] 46))
  go_enter Try.func74, Try.ntmps74
  go_wp2_with fail
  refine (H2.out _).mono ?_; rintro e w' ⟨rfl, rfl⟩
  go_wp2_with fail
  go_ret
  exact ⟨rfl, HB.out⟩

set_option maxHeartbeats 1000000 in
theorem bsearch_any (l : List Im) (s : ByteArray) (A : Option Addr) (c : Nat) (w : World) (hr : Rds w encI A l) (hm : l.length ≤ 1000000) (hs : SortedN l) :
    Calls Try.prog 73 #[.slice A l.length c, .string s, .func (.func 74) #[] #[]] w fun e w' => e = .returned (.tuple #[.int .i64 (lowerI l s), .bool (isAt l s)]) ∧ Below w.heap.size w w' := by
  have HR := Lib.hid hr
  have HS := Lib.hid hs
  clear hr hs
  go_enter Try.func73, Try.ntmps73
  go_wp2_with fail
  go_loopw [9, 10] (fun i j wr => ∃ a b : Nat, i = .int .i64 a ∧ j = .int .i64 b ∧ Srch l s a b ∧ Below w.heap.size w wr) (fun i j _ => ((intOf j).toNat - (intOf i).toNat))
  case atStart => exact ⟨0, l.length, rfl, rfl, Srch.start l s, Below.refl _ _⟩
  case round =>
    obtain ⟨a, b, rfl, rfl, hS, hB⟩ := hrel
    have hle := hS.le
    have htop := hS.top
    have HQ := Lib.hid (And.intro hS hB)
    clear hS hB
    by_cases hlt : a < b
    · obtain ⟨h, hh⟩ : ∃ h : Nat, h = (a + b) / 2 := ⟨_, rfl⟩
      have hha : a ≤ h := by omega
      have hhb : h < b := by omega
      have hhl : h < l.length := by omega
      have dk : decide ((a : Int) < (b : Int)) = true := decide_eq_true (by omega)
      have dkn : decide (a < b) = true := decide_eq_true (by omega)
      have dk2 : (h : Int) < (l.length : Int) := by omega
      obtain ⟨n, hn⟩ : ∃ n : Nat, n = a + b := ⟨_, rfl⟩
      have e0 : (a : Int) + (b : Int) = (n : Int) := by omega
      have e1 : wrap64 ((a : Int) + (b : Int)) = (n : Int) := by unfold wrap64; omega
      have e2 : IntKind.u64.wrap (n : Int) = (n : Int) := by rw [IntKind.wrap_u64]; omega
      have e3 : (n : Int) / 2 = (h : Int) := by omega
      have e4 : wrap64 (h : Int) = (h : Int) := by unfold wrap64; omega
      obtain ⟨b0, off, rfl, hb0, c0, c1, c2⟩ := (HR.out.below HQ.out.2).im hhl
      have HC0 := Lib.hid (cmp_lt l[h].name s)
      have HUP := Lib.hid (fun hc => HQ.out.1.up HS.out hhb hhl hc)
      have HDN := Lib.hid (fun hc => HQ.out.1.down HS.out hha hhb hhl hc)
      generalize l[h] = x at *
      have HCL := Lib.hid (fun W' => closureAt x s W')
      generalize Lib.compareBytes x.name.data.toList s.data.toList = r at *
      clear hh hn
      cases he : blt x.name s
      · have d0 : decide (r < 0) = false := decide_eq_false (by rw [HC0.out, he]; simp)
        have HV := Lib.hid (HDN.out he)
        clear he
        go_wp2_with fail
        refine (HCL.out _).mono ?_; rintro e w' ⟨rfl, hbw⟩
        have HB := Lib.hid (HQ.out.2.trans (hbw.mono HQ.out.2.size))
        clear hbw
        go_wp2_with fail
        go_roundw
        case rel => exact ⟨a, h, rfl, rfl, HV.out, HB.out⟩
        case measure => simp [intOf]; omega
      · have d0 : decide (r < 0) = true := decide_eq_true (by rw [HC0.out, he])
        have HV := Lib.hid (HUP.out he)
        clear he
        go_wp2_with fail
        refine (HCL.out _).mono ?_; rintro e w' ⟨rfl, hbw⟩
        have HB := Lib.hid (HQ.out.2.trans (hbw.mono HQ.out.2.size))
        clear hbw
        go_wp2_with fail
        go_roundw
        case rel => exact ⟨h + 1, b, by go_num, rfl, HV.out, HB.out⟩
        case measure => simp [intOf]; omega
    · obtain rfl : a = b := by omega
      have HL := Lib.hid (HQ.out.1.done)
      have dk : decide ((a : Int) < (a : Int)) = false := by simp
      by_cases hal : a < l.length
      · have dl : decide ((a : Int) < (l.length : Int)) = true := decide_eq_true (by omega)
        have dl2 : (a : Int) < (l.length : Int) := by omega
        obtain ⟨b0, off, rfl, hb0, c0, c1, c2⟩ := (HR.out.below HQ.out.2).im hal
        have HAT := Lib.hid (show isAt l s = (l[a].name.toList == s.toList) by unfold isAt; rw [HL.out, List.getElem?_eq_getElem hal])
        have HC0 := Lib.hid (cmp_eq l[a].name s)
        generalize l[a] = x at *
        have HCL := Lib.hid (fun W' => closureAt x s W')
        generalize Lib.compareBytes x.name.data.toList s.data.toList = r at *
        cases he : (x.name.toList == s.toList)
        · have d0 : (r == 0) = false := beq_eq_false_iff_ne.2 (fun h => by rw [HC0.out, he] at h; cases h)
          have HV := Lib.hid (show isAt l s = false by rw [HAT.out, he])
          clear he
          go_wp2_with fail
          refine (HCL.out _).mono ?_; rintro e w' ⟨rfl, hbw⟩
          have HB := Lib.hid (HQ.out.2.trans (hbw.mono HQ.out.2.size))
          clear hbw
          go_wp2_with fail
          go_ret2
          exact ⟨by rw [HL.out, HV.out] <;> rfl, HB.out⟩
        · have d0 : (r == 0) = true := beq_iff_eq.2 (by rw [HC0.out, he])
          have HV := Lib.hid (show isAt l s = true by rw [HAT.out, he])
          clear he
          go_wp2_with fail
          refine (HCL.out _).mono ?_; rintro e w' ⟨rfl, hbw⟩
          have HB := Lib.hid (HQ.out.2.trans (hbw.mono HQ.out.2.size))
          clear hbw
          go_wp2_with fail
          go_ret2
          exact ⟨by rw [HL.out, HV.out] <;> rfl, HB.out⟩
      · have dl : decide ((a : Int) < (l.length : Int)) = false := decide_eq_false (by omega)
        have HV := Lib.hid (show isAt l s = false by unfold isAt; rw [HL.out, List.getElem?_eq_none (by omega)])
        go_wp2_with fail
        go_ret2
        exact ⟨by rw [HL.out, HV.out] <;> rfl, HQ.out.2⟩
end Go.Proofs.Ytfaklhdafpbkmaa
