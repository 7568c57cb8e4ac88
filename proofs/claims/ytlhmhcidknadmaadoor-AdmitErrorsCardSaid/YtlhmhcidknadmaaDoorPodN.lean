/- The program's pod.Named and pod.Right. -/
import Derived.Test.YtlhmhcidknadmaaDoorPodR
import Derived.Test.YtlhmhcidknadmaaDoorShelf
namespace Go.Proofs.YtlhmhcidknadmaaDoor
open Go.RowKit

def signs : List UInt8 := [97, 98, 99, 100, 101, 102, 103, 104, 105, 106, 107, 108, 109, 110, 111, 112, 113, 114, 115, 116, 117, 118, 119, 120, 121, 122, 48, 49, 50, 51, 52, 53, 54, 55, 56, 57, 45]

theorem contains_signs (c : UInt8) : signs.contains c = sign c := by
  revert c
  have h : ∀ n, n < 256 → signs.contains (UInt8.ofNat n) = sign (UInt8.ofNat n) := by decide +kernel
  intro c
  have := h c.toNat (UInt8.toNat_lt c)
  simpa using this

theorem dropWhile_nil {p : UInt8 → Bool} (l : List UInt8) : l.dropWhile p = [] ↔ ∀ x ∈ l, p x = true := by
  induction l with
  | nil => simp
  | cons a l ih =>
    rw [List.dropWhile_cons]
    by_cases h : p a = true
    · rw [if_pos h, ih]; simp [h]
    · rw [if_neg h]; simp [h]

theorem trim_nil (l : List UInt8) : (Lib.trimS l signs = []) ↔ l.all sign = true := by
  have e : (fun x => signs.contains x) = sign := funext contains_signs
  unfold Lib.trimS Lib.trimLeftS Lib.trimRightS
  rw [e, dropWhile_nil, List.all_eq_true]
  constructor
  · intro h x hx
    by_cases hx2 : x ∈ (List.dropWhile sign l.reverse).reverse
    · exact h x hx2
    · have h2 : List.dropWhile sign l.reverse = [] := by
        rcases hd : List.dropWhile sign l.reverse with _ | ⟨a, t⟩
        · rfl
        · have ha := h a (by rw [hd]; simp)
          have := List.head_dropWhile_not (p := sign) (l := l.reverse) (by rw [hd]; simp)
          simp only [hd, List.head_cons] at this
          rw [ha] at this; cases this
      rw [dropWhile_nil] at h2
      exact h2 x (by simpa using hx)
  · intro h x hx
    refine h x ?_
    have : x ∈ l.reverse := (List.dropWhile_sublist _).subset (by simpa using hx)
    simpa using this

theorem trim_str (s : ByteArray) : ((⟨(Lib.trimS s.data.toList signs).toArray⟩ : ByteArray).toList.isEmpty) = s.data.toList.all sign := by
  rw [Bool.eq_iff_iff, ← trim_nil]
  simp [ByteArray.toList_eq]

set_option maxHeartbeats 1000000 in
theorem named_any (s : ByteArray) (w : World) (hs : s.size ≤ 9223372036854775807) :
    Calls Tryd.prog 31 #[.string s] w fun e w' => e = .returned (.bool (named s.data.toList)) ∧ Below w.heap.size w w' := by
  have hlen : s.data.toList.length = s.size := rfl
  have hcon := Any.strings_Trim_laid Tryd.lays160 (by kernel_rfl) s ⟨signs.toArray⟩ w hs (by decide) (ascii_of_all (by decide))
  change Calls Tryd.prog 37 _ _ (fun e w' => e = .returned (.string ⟨(Lib.trimS s.data.toList signs).toArray⟩) ∧ Below w.heap.size w w') at hcon
  have htr := trim_str s
  by_cases h1 : 1 ≤ s.size
  · by_cases h2 : s.size ≤ 24
    · have hn : named s.data.toList = s.data.toList.all sign := by unfold named; simp [hlen, h1, h2]
      rw [hn, ← htr]
      generalize (⟨(Lib.trimS s.data.toList signs).toArray⟩ : ByteArray) = r at hcon ⊢
      clear htr hn
      have H := Lib.hid hcon
      clear hcon
      go_enter Tryd.func31, Tryd.ntmps31
      go_wp2_with fail
      refine (H.out).mono ?_; rintro e w' ⟨rfl, hB⟩
      go_wp2
      go_ret
      exact ⟨rfl, hB⟩
    · have hn : named s.data.toList = false := by unfold named; simp [hlen, h2]
      rw [hn]
      clear htr hcon hn
      go_enter Tryd.func31, Tryd.ntmps31
      go_wp2
      go_ret
      exact ⟨rfl, Below.refl _ _⟩
  · have hn : named s.data.toList = false := by unfold named; simp [hlen, h1]
    rw [hn]
    clear htr hcon hn
    go_enter Tryd.func31, Tryd.ntmps31
    go_wp2
    go_ret
    exact ⟨rfl, Below.refl _ _⟩
end Go.Proofs.YtlhmhcidknadmaaDoor
namespace Go.Proofs.YtlhmhcidknadmaaDoor
open Go.RowKit Go.Shelf Go.Lib
set_option maxHeartbeats 2000000 in
theorem right_any (p : Pd) (w : World) (hp : p.Wf) :
    Calls Tryd.prog 23 #[.agg p.cells] w fun e w' => e = .returned (.bool p.right) ∧ Below w.heap.size w w' := by
  go_enter Tryd.func23, Tryd.ntmps23
  go_wp2
  go_loop [7] (fun t => ∃ k : Nat, k ≤ 3 ∧ t = .int .i64 k ∧ p.okTo k = true) (fun t => 3 - (intOf t).toNat)
  case atStart => exact ⟨0, by omega, rfl, p.okTo_zero⟩
  case round =>
    obtain ⟨k, hk, rfl, hok⟩ := hrel
    have HO := Lib.hid hok
    clear hok
    obtain rfl | rfl | rfl | rfl : k = 0 ∨ k = 1 ∨ k = 2 ∨ k = 3 := by omega
    · rcases bad_cases p.q0 p.l0 with ⟨hb, h | ⟨h1, h2⟩ | ⟨h1, h2, h3⟩⟩ | ⟨hb, h0, h | ⟨h1, h2⟩⟩
      iterate 3
        · have HB := Lib.hid (p.bad_zero hb)
          clear hb
          go_wp2
          go_ret
          exact ⟨ret_bool HB.out.symm, (Below.refl _ _).alloc (Nat.le_refl _) _⟩
      all_goals
        have HB := Lib.hid (p.okTo_one hb)
        clear hb
        go_wp2
        go_round
        case rel => exact ⟨1, by omega, rfl, HB.out⟩
        case measure => simp [intOf]
    · rcases bad_cases p.q1 p.l1 with ⟨hb, h | ⟨h1, h2⟩ | ⟨h1, h2, h3⟩⟩ | ⟨hb, h0, h | ⟨h1, h2⟩⟩
      iterate 3
        · have HB := Lib.hid (p.bad_one hb)
          clear hb
          go_wp2
          go_ret
          exact ⟨ret_bool HB.out.symm, (Below.refl _ _).alloc (Nat.le_refl _) _⟩
      all_goals
        have HB := Lib.hid (p.okTo_two HO.out hb)
        clear hb
        go_wp2
        go_round
        case rel => exact ⟨2, by omega, rfl, HB.out⟩
        case measure => simp [intOf]
    · rcases bad_cases p.q2 p.l2 with ⟨hb, h | ⟨h1, h2⟩ | ⟨h1, h2, h3⟩⟩ | ⟨hb, h0, h | ⟨h1, h2⟩⟩
      iterate 3
        · have HB := Lib.hid (p.bad_two hb)
          clear hb
          go_wp2
          go_ret
          exact ⟨ret_bool HB.out.symm, (Below.refl _ _).alloc (Nat.le_refl _) _⟩
      all_goals
        have HB := Lib.hid (p.okTo_three HO.out hb)
        clear hb
        go_wp2
        go_round
        case rel => exact ⟨3, by omega, rfl, HB.out⟩
        case measure => simp [intOf]
    · have HA := Lib.hid (p.ok_of_three HO.out)
      clear HO hk
      cases hn : named p.id.data.toList
      · have HR : Hid (p.right = false) := by show p.right = false; simp [Pd.right, hn]
        go_wp2_with (go_at_call 31; refine (named_any _ _ hp.id).mono ?_; rintro e w' ⟨rfl, hb⟩; obtain ⟨hc, hf⟩ := bcell hb)
        go_ret
        exact ⟨ret_bool HR.out.symm, ((Below.refl _ _).alloc (Nat.le_refl _) _).trans (hb.mono (by simp))⟩
      · cases hm : named p.image.data.toList
        · have HR : Hid (p.right = false) := by show p.right = false; simp [Pd.right, hm]
          have HN := Lib.hid hn
          have HM := Lib.hid hm
          clear hn hm
          go_wp2_with fail
          refine (named_any _ _ hp.id).mono ?_; rintro e w1 ⟨rfl, hb⟩; obtain ⟨hc, hf⟩ := bcell hb
          rw [HN.out]
          go_wp2_with fail
          refine (named_any _ _ hp.image).mono ?_; rintro e w2 ⟨rfl, hb2⟩
          rw [HM.out]
          obtain ⟨hc2, hf2⟩ := bcell hb2
          go_wp2_with fail
          go_ret
          exact ⟨ret_bool HR.out.symm, (((Below.refl _ _).alloc (Nat.le_refl _) _).trans (hb.mono (by simp))).trans (hb2.mono (by have := hb.size; simp at this; omega))⟩
        · have HR : Hid (p.right = p.rest) := by
            show p.right = p.rest
            simp [Pd.right, hn, hm, HA.out]
          have HN := Lib.hid hn
          have HM := Lib.hid hm
          clear hn hm
          rcases (show p.prio < -1073741824 ∨ 1073741824 < p.prio ∨ (-1073741824 ≤ p.prio ∧ p.prio ≤ 1073741824) by omega) with h | h | ⟨h1, h2⟩
          · have HX : Hid (p.rest = false) := by show p.rest = false; unfold Pd.rest; rw [decide_eq_false (by omega)]; rfl
            go_wp2_with fail
            refine (named_any _ _ hp.id).mono ?_; rintro e w1 ⟨rfl, hb⟩; obtain ⟨hc, hf⟩ := bcell hb
            rw [HN.out]
            go_wp2_with fail
            refine (named_any _ _ hp.image).mono ?_; rintro e w2 ⟨rfl, hb2⟩
            rw [HM.out]
            have hz : w.heap.size + 1 ≤ w1.heap.size := by have := hb.size; simpa using this
            have hz' : w.heap.size < w1.heap.size := hz
            obtain ⟨hc2, hf2⟩ := bcell hb2
            go_wp2_with fail
            go_ret
            exact ⟨ret_bool (HR.out.trans HX.out).symm, (((Below.refl _ _).alloc (Nat.le_refl _) _).trans (hb.mono (by simp))).trans (hb2.mono (by omega))⟩
          · have HX : Hid (p.rest = false) := by show p.rest = false; unfold Pd.rest; rw [decide_eq_false (by omega : ¬ p.prio ≤ 1073741824)]; simp
            go_wp2_with fail
            refine (named_any _ _ hp.id).mono ?_; rintro e w1 ⟨rfl, hb⟩; obtain ⟨hc, hf⟩ := bcell hb
            rw [HN.out]
            go_wp2_with fail
            refine (named_any _ _ hp.image).mono ?_; rintro e w2 ⟨rfl, hb2⟩
            rw [HM.out]
            have hz : w.heap.size + 1 ≤ w1.heap.size := by have := hb.size; simpa using this
            have hz' : w.heap.size < w1.heap.size := hz
            obtain ⟨hc2, hf2⟩ := bcell hb2
            go_wp2_with fail
            go_ret
            exact ⟨ret_bool (HR.out.trans HX.out).symm, (((Below.refl _ _).alloc (Nat.le_refl _) _).trans (hb.mono (by simp))).trans (hb2.mono (by omega))⟩
          · have HX : Hid (p.rest = decide (0 ≤ p.size)) := by show p.rest = _; unfold Pd.rest; rw [decide_eq_true h1, decide_eq_true h2]; rfl
            go_wp2_with fail
            refine (named_any _ _ hp.id).mono ?_; rintro e w1 ⟨rfl, hb⟩; obtain ⟨hc, hf⟩ := bcell hb
            rw [HN.out]
            go_wp2_with fail
            refine (named_any _ _ hp.image).mono ?_; rintro e w2 ⟨rfl, hb2⟩
            rw [HM.out]
            have hz : w.heap.size + 1 ≤ w1.heap.size := by have := hb.size; simpa using this
            have hz' : w.heap.size < w1.heap.size := hz
            obtain ⟨hc2, hf2⟩ := bcell hb2
            go_wp2_with fail
            go_ret
            exact ⟨ret_bool (HR.out.trans HX.out).symm, (((Below.refl _ _).alloc (Nat.le_refl _) _).trans (hb.mono (by simp))).trans (hb2.mono (by omega))⟩

end Go.Proofs.YtlhmhcidknadmaaDoor
