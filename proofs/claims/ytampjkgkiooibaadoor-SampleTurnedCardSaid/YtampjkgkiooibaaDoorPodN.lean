/- The program's pod.Named and pod.Right. -/
import Derived.Test.YtampjkgkiooibaaDoorPodR
import Derived.Test.YtampjkgkiooibaaDoorShelf
namespace Go.Proofs.YtampjkgkiooibaaDoor
open Go.RowKit

def signs : List UInt8 := [97, 98, 99, 100, 101, 102, 103, 104, 105, 106, 107, 108, 109, 110, 111, 112, 113, 114, 115, 116, 117, 118, 119, 120, 121, 122, 48, 49, 50, 51, 52, 53, 54, 55, 56, 57, 45]

theorem contains_signs (c : UInt8) : signs.contains c = sign c := by
  revert c
  have h : ∀ n, n < 256 → signs.contains (UInt8.ofNat n) = sign (UInt8.ofNat n) := by decide +kernel
  intro c
  have := h c.toNat (UInt8.toNat_lt c)
  simpa using this

theorem dropWhile_nil {p : UInt8 → Bool} (l : List UInt8) : l.dropWhile p = [] ↔ ∀ x ∈ l, p x = true := by
  induction l with
  | nil => simp
  | cons a l ih =>
    rw [List.dropWhile_cons]
    by_cases h : p a = true
    · rw [if_pos h, ih]; simp [h]
    · rw [if_neg h]; simp [h]

theorem trim_nil (l : List UInt8) : (Lib.trimS l signs = []) ↔ l.all sign = true := by
  have e : (fun x => signs.contains x) = sign := funext contains_signs
  unfold Lib.trimS Lib.trimLeftS Lib.trimRightS
  rw [e, dropWhile_nil, List.all_eq_true]
  constructor
  · intro h x hx
    by_cases hx2 : x ∈ (List.dropWhile sign l.reverse).reverse
    · exact h x hx2
    · have h2 : List.dropWhile sign l.reverse = [] := by
        rcases hd : List.dropWhile sign l.reverse with _ | ⟨a, t⟩
        · rfl
        · have ha := h a (by rw [hd]; simp)
          have := List.head_dropWhile_not (p := sign) (l := l.reverse) (by rw [hd]; simp)
          simp only [hd, List.head_cons] at this
          rw [ha] at this; cases this
      rw [dropWhile_nil] at h2
      exact h2 x (by simpa using hx)
  · intro h x hx
    refine h x ?_
    have : x ∈ l.reverse := (List.dropWhile_sublist _).subset (by simpa using hx)
    simpa using this

theorem trim_str (s : ByteArray) : ((⟨(Lib.trimS s.data.toList signs).toArray⟩ : ByteArray).toList.isEmpty) = s.data.toList.all sign := by
  rw [Bool.eq_iff_iff, ← trim_nil]
  simp [ByteArray.toList_eq]

set_option maxHeartbeats 1000000 in
theorem named_any (s : ByteArray) (w : World) (hs : s.size ≤ 9223372036854775807) :
    Calls Tryd.prog 39 #[.string s] w fun e w' => e = .returned (.bool (named s.data.toList)) ∧ Below w.heap.size w w' := by
  have hlen : s.data.toList.length = s.size := rfl
  have hcon := Any.strings_Trim_laid Tryd.lays160 (by kernel_rfl) s ⟨signs.toArray⟩ w hs (by decide) (ascii_of_all (by decide))
  change Calls Tryd.prog 45 _ _ (fun e w' => e = .returned (.string ⟨(Lib.trimS s.data.toList signs).toArray⟩) ∧ Below w.heap.size w w') at hcon
  have htr := trim_str s
  by_cases h1 : 1 ≤ s.size
  · by_cases h2 : s.size ≤ 24
    · have hn : named s.data.toList = s.data.toList.all sign := by unfold named; simp [hlen, h1, h2]
      rw [hn, ← htr]
      generalize (⟨(Lib.trimS s.data.toList signs).toArray⟩ : ByteArray) = r at hcon ⊢
      clear htr hn
      have H := Lib.hid hcon
      clear hcon
      go_enter Tryd.func39, Tryd.ntmps39
      go_wp2_with fail
      refine (H.out).mono ?_; rintro e w' ⟨rfl, hB⟩
      go_wp2
      go_ret
      exact ⟨rfl, hB⟩
    · have hn : named s.data.toList = false := by unfold named; simp [hlen, h2]
      rw [hn]
      clear htr hcon hn
      go_enter Tryd.func39, Tryd.ntmps39
      go_wp2
      go_ret
      exact ⟨rfl, Below.refl _ _⟩
  · have hn : named s.data.toList = false := by unfold named; simp [hlen, h1]
    rw [hn]
    clear htr hcon hn
    go_enter Tryd.func39, Tryd.ntmps39
    go_wp2
    go_ret
    exact ⟨rfl, Below.refl _ _⟩
end Go.Proofs.YtampjkgkiooibaaDoor
namespace Go.Proofs.YtampjkgkiooibaaDoor
open Go.RowKit Go.Shelf Go.Lib

end Go.Proofs.YtampjkgkiooibaaDoor
