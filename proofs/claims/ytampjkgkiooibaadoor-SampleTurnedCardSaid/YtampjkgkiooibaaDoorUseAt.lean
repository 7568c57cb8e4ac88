/- Uses of a sample; where a pod's stands in a sorted list of them; sample.Of. -/
import Derived.Test.YtampjkgkiooibaaDoorCmpR
import Derived.Test.YtampjkgkiooibaaDoorOwnSet
import Derived.Outline
namespace Go.Proofs.YtampjkgkiooibaaDoor
open Go.RowKit

/-- what a pod uses, as data -/
structure Us where
  id : ByteArray
  a0 : Int
  a1 : Int
  a2 : Int
abbrev Us.cells (p : Us) : Array Value := #[.string p.id, .int .i64 p.a0, .int .i64 p.a1, .int .i64 p.a2]
instance : Inhabited Us := ⟨⟨⟨#[]⟩, 0, 0, 0⟩⟩
def encU : Enc Us 4 := ⟨fun p => p.cells.toList, fun _ => rfl, fun p u hu => by simp at hu; rcases hu with h | h | h | h <;> subst h <;> rfl, by decide⟩
theorem Rds.us {w : World} {A : Option Addr} {l : List Us} (h : Rds w encU A l) {i : Nat} (hi : i < l.length) : ∃ b off, A = some ⟨b, off, none⟩ ∧ b < w.heap.size ∧
    w.cell? ⟨b, off + i * 4, none⟩ = some (.string l[i].id) ∧ w.cell? ⟨b, off + i * 4 + 1, none⟩ = some (.int .i64 l[i].a0) ∧ w.cell? ⟨b, off + i * 4 + 2, none⟩ = some (.int .i64 l[i].a1) ∧ w.cell? ⟨b, off + i * 4 + 3, none⟩ = some (.int .i64 l[i].a2) := by
  obtain ⟨b, off, e, hb, hc⟩ := h.at_ hi
  exact ⟨b, off, e, hb, by have := hc 0 (.string l[i].id) rfl; simpa using this, hc 1 (.int .i64 l[i].a0) rfl, hc 2 (.int .i64 l[i].a1) rfl, hc 3 (.int .i64 l[i].a2) rfl⟩

def SortedU (l : List Us) : Prop := ∀ (i j : Nat) (_ : i < j) (hj : j < l.length), blt (l[i]'(by omega)).id l[j].id = true
def lowerU (l : List Us) (s : ByteArray) : Nat := l.countP fun x => blt x.id s
def isAtU (l : List Us) (s : ByteArray) : Bool := match l[lowerU l s]? with | some x => x.id.toList == s.toList | none => false
theorem lowerU_le (l : List Us) (s : ByteArray) : lowerU l s ≤ l.length := List.countP_le_length
theorem countP_bound {α : Type} (p : α → Bool) : ∀ (l : List α) (i : Nat), i ≤ l.length → (∀ (t : Nat) (ht : t < l.length), t < i → p l[t] = true) → (∀ (t : Nat) (ht : t < l.length), i ≤ t → p l[t] = false) → l.countP p = i
  | [], i, hi, _, _ => by simp at hi; simp [hi]
  | a :: r, 0, _, _, h2 => by
    rw [List.countP_eq_zero]
    intro x hx
    obtain ⟨t, ht, rfl⟩ := List.getElem_of_mem hx
    simp [h2 t ht (Nat.zero_le _)]
  | a :: r, i + 1, hi, h1, h2 => by
    have ha : p a = true := h1 0 (by simp) (Nat.succ_pos _)
    rw [List.countP_cons_of_pos ha, countP_bound p r i (by simpa using hi) (fun t ht h => h1 (t + 1) (by simpa using ht) (by omega)) (fun t ht h => h2 (t + 1) (by simpa using ht) (by omega))]
/-- what the search knows: below a all are less, from b on none is -/
structure Srch (l : List Us) (s : ByteArray) (a b : Nat) : Prop where
  le : a ≤ b
  top : b ≤ l.length
  lo : ∀ (t : Nat) (ht : t < l.length), t < a → blt l[t].id s = true
  hi : ∀ (t : Nat) (ht : t < l.length), b ≤ t → blt l[t].id s = false
theorem Srch.start (l : List Us) (s : ByteArray) : Srch l s 0 l.length := ⟨Nat.zero_le _, Nat.le_refl _, fun t _ h => by omega, fun t h h2 => by omega⟩
theorem Srch.up {l : List Us} {s : ByteArray} {a b h : Nat} (hs : SortedU l) (hS : Srch l s a b) (hb : h < b) (hl : h < l.length) (hc : blt l[h].id s = true) : Srch l s (h + 1) b := by
  refine ⟨by omega, hS.top, fun t ht hlt => ?_, hS.hi⟩
  rcases Nat.lt_or_ge t h with h1 | h1
  · exact blt_trans (hs t h h1 hl) hc
  · obtain rfl : t = h := by omega
    exact hc
theorem Srch.down {l : List Us} {s : ByteArray} {a b h : Nat} (hs : SortedU l) (hS : Srch l s a b) (ha : a ≤ h) (hb : h < b) (hl : h < l.length) (hc : blt l[h].id s = false) : Srch l s a h := by
  refine ⟨ha, by omega, hS.lo, fun t ht hge => ?_⟩
  rcases Nat.lt_or_ge h t with h1 | h1
  · cases h2 : blt l[t].id s
    · rfl
    · rw [blt_trans (hs h t h1 ht) h2] at hc; cases hc
  · obtain rfl : t = h := by omega
    exact hc
theorem Srch.done {l : List Us} {s : ByteArray} {a : Nat} (hS : Srch l s a a) : lowerU l s = a := countP_bound _ l a hS.top hS.lo hS.hi
theorem cmp_lt (a b : ByteArray) : (Lib.compareBytes a.data.toList b.data.toList < 0) = (blt a b = true) := by
  rw [blt_eq, decide_eq_true_eq]; exact propext (cmpB_lt _ _).1
theorem cmp_eq (a b : ByteArray) : (Lib.compareBytes a.data.toList b.data.toList = 0) = ((a.toList == b.toList) = true) := by
  rw [beq_iff_eq, ByteArray.toList_eq, ByteArray.toList_eq]; exact propext (cmpB_lt _ _).2

theorem closureOf (x : Us) (s : ByteArray) (W : World) : Calls Tryd.prog 35 #[.agg #[.string x.id, .int .i64 x.a0, .int .i64 x.a1, .int .i64 x.a2], .string s] W fun e w' => e = .returned (.int .i64 (Lib.compareBytes x.id.data.toList s.data.toList)) ∧ Below W.heap.size W w' := by
  have h2 := fun W' => strcmp_any x.id s W'
  generalize Lib.compareBytes x.id.data.toList s.data.toList = r2 at *
  have H2 := Lib.hid h2
  clear h2
  have HB := Lib.hid ((Below.refl W.heap.size W).alloc (Nat.le_refl _) (.cells #[.string x.id, .int .i64 x.a0, .int .i64 x.a1, .int .i64 x.a2] 51))
  go_enter Tryd.func35, Tryd.ntmps35
  go_wp2_with fail
  refine (H2.out _).mono ?_; rintro e w' ⟨rfl, rfl⟩
  go_wp2_with fail
  go_ret
  exact ⟨rfl, HB.out⟩

set_option maxHeartbeats 1000000 in
theorem bsearch_any (l : List Us) (s : ByteArray) (A : Option Addr) (c : Nat) (w : World) (hr : Rds w encU A l) (hm : l.length ≤ 1000000) (hs : SortedU l) :
    Calls Tryd.prog 34 #[.slice A l.length c, .string s, .func (.func 35) #[] #[]] w fun e w' => e = .returned (.tuple #[.int .i64 (lowerU l s), .bool (isAtU l s)]) ∧ Below w.heap.size w w' := by
  have HR := Lib.hid hr
  have HS := Lib.hid hs
  clear hr hs
  go_enter Tryd.func34, Tryd.ntmps34
  go_wp2_with fail
  go_loopw [9, 10] (fun i j wr => ∃ a b : Nat, i = .int .i64 a ∧ j = .int .i64 b ∧ Srch l s a b ∧ Below w.heap.size w wr) (fun i j _ => ((intOf j).toNat - (intOf i).toNat))
  case atStart => exact ⟨0, l.length, rfl, rfl, Srch.start l s, Below.refl _ _⟩
  case round =>
    obtain ⟨a, b, rfl, rfl, hS, hB⟩ := hrel
    have hle := hS.le
    have htop := hS.top
    have HQ := Lib.hid (And.intro hS hB)
    clear hS hB
    by_cases hlt : a < b
    · obtain ⟨h, hh⟩ : ∃ h : Nat, h = (a + b) / 2 := ⟨_, rfl⟩
      have hha : a ≤ h := by omega
      have hhb : h < b := by omega
      have hhl : h < l.length := by omega
      have dk : decide ((a : Int) < (b : Int)) = true := decide_eq_true (by omega)
      have dkn : decide (a < b) = true := decide_eq_true (by omega)
      have dk2 : (h : Int) < (l.length : Int) := by omega
      obtain ⟨n, hn⟩ : ∃ n : Nat, n = a + b := ⟨_, rfl⟩
      have e0 : (a : Int) + (b : Int) = (n : Int) := by omega
      have e1 : wrap64 ((a : Int) + (b : Int)) = (n : Int) := by unfold wrap64; omega
      have e2 : IntKind.u64.wrap (n : Int) = (n : Int) := by rw [IntKind.wrap_u64]; omega
      have e3 : (n : Int) / 2 = (h : Int) := by omega
      have e4 : wrap64 (h : Int) = (h : Int) := by unfold wrap64; omega
      obtain ⟨b0, off, rfl, hb0, c0, c1, c2, c3⟩ := (HR.out.below HQ.out.2).us hhl
      have HC0 := Lib.hid (cmp_lt l[h].id s)
      have HUP := Lib.hid (fun hc => HQ.out.1.up HS.out hhb hhl hc)
      have HDN := Lib.hid (fun hc => HQ.out.1.down HS.out hha hhb hhl hc)
      generalize l[h] = x at *
      have HCL := Lib.hid (fun W' => closureOf x s W')
      generalize Lib.compareBytes x.id.data.toList s.data.toList = r at *
      clear hh hn
      cases he : blt x.id s
      · have d0 : decide (r < 0) = false := decide_eq_false (by rw [HC0.out, he]; simp)
        have HV := Lib.hid (HDN.out he)
        clear he
        go_wp2_with fail
        refine (HCL.out _).mono ?_; rintro e w' ⟨rfl, hbw⟩
        have HB := Lib.hid (HQ.out.2.trans (hbw.mono HQ.out.2.size))
        clear hbw
        go_wp2_with fail
        go_roundw
        case rel => exact ⟨a, h, rfl, rfl, HV.out, HB.out⟩
        case measure => simp [intOf]; omega
      · have d0 : decide (r < 0) = true := decide_eq_true (by rw [HC0.out, he])
        have HV := Lib.hid (HUP.out he)
        clear he
        go_wp2_with fail
        refine (HCL.out _).mono ?_; rintro e w' ⟨rfl, hbw⟩
        have HB := Lib.hid (HQ.out.2.trans (hbw.mono HQ.out.2.size))
        clear hbw
        go_wp2_with fail
        go_roundw
        case rel => exact ⟨h + 1, b, by go_num, rfl, HV.out, HB.out⟩
        case measure => simp [intOf]; omega
    · obtain rfl : a = b := by omega
      have HL := Lib.hid (HQ.out.1.done)
      have dk : decide ((a : Int) < (a : Int)) = false := by simp
      by_cases hal : a < l.length
      · have dl : decide ((a : Int) < (l.length : Int)) = true := decide_eq_true (by omega)
        have dl2 : (a : Int) < (l.length : Int) := by omega
        obtain ⟨b0, off, rfl, hb0, c0, c1, c2, c3⟩ := (HR.out.below HQ.out.2).us hal
        have HAT := Lib.hid (show isAtU l s = (l[a].id.toList == s.toList) by unfold isAtU; rw [HL.out, List.getElem?_eq_getElem hal])
        have HC0 := Lib.hid (cmp_eq l[a].id s)
        generalize l[a] = x at *
        have HCL := Lib.hid (fun W' => closureOf x s W')
        generalize Lib.compareBytes x.id.data.toList s.data.toList = r at *
        cases he : (x.id.toList == s.toList)
        · have d0 : (r == 0) = false := beq_eq_false_iff_ne.2 (fun h => by rw [HC0.out, he] at h; cases h)
          have HV := Lib.hid (show isAtU l s = false by rw [HAT.out, he])
          clear he
          go_wp2_with fail
          refine (HCL.out _).mono ?_; rintro e w' ⟨rfl, hbw⟩
          have HB := Lib.hid (HQ.out.2.trans (hbw.mono HQ.out.2.size))
          clear hbw
          go_wp2_with fail
          go_ret2
          exact ⟨by rw [HL.out, HV.out] <;> rfl, HB.out⟩
        · have d0 : (r == 0) = true := beq_iff_eq.2 (by rw [HC0.out, he])
          have HV := Lib.hid (show isAtU l s = true by rw [HAT.out, he])
          clear he
          go_wp2_with fail
          refine (HCL.out _).mono ?_; rintro e w' ⟨rfl, hbw⟩
          have HB := Lib.hid (HQ.out.2.trans (hbw.mono HQ.out.2.size))
          clear hbw
          go_wp2_with fail
          go_ret2
          exact ⟨by rw [HL.out, HV.out] <;> rfl, HB.out⟩
      · have dl : decide ((a : Int) < (l.length : Int)) = false := decide_eq_false (by omega)
        have HV := Lib.hid (show isAtU l s = false by unfold isAtU; rw [HL.out, List.getElem?_eq_none (by omega)])
        go_wp2_with fail
        go_ret2
        exact ⟨by rw [HL.out, HV.out] <;> rfl, HQ.out.2⟩
end Go.Proofs.YtampjkgkiooibaaDoor
