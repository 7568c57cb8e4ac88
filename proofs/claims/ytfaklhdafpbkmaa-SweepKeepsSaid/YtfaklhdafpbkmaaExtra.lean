/- Extra: the reference's and the program's. -/
import Derived.Test.YtfaklhdafpbkmaaDeadLaw
namespace Go.Proofs.Ytfaklhdafpbkmaa
open Go.RowKit

/-- how many of n go, where keep stay -/
def goes (n : Nat) (keep : Int) : Nat := if keep < 0 then n else n - keep.toNat
theorem goes_le (n : Nat) (keep : Int) : goes n keep ≤ n := by unfold goes; split <;> omega
def GivesTake (P : List ByteArray → Prop) (keep : Int) (w : World) (e : Ending) (w' : World) : Prop := ∃ m, P m ∧ GivesTexts (m.take (goes m.length keep)) w e w'

set_option maxHeartbeats 1000000 in
theorem extra_any (l : List Cn) (pods : List ByteArray) (keep : Int) (A B : Option Addr) (c d : Nat) (w : World) (hr : Rds w encC A l) (hs : Rds w encS B pods) (hl : l.length ≤ 100000) (hm : pods.length ≤ 9223372036854775807) (hk : I64 keep) :
    Calls Try.prog 25 #[.slice A l.length c, .slice B pods.length d, .int .i64 keep] w (GivesTake (SortedDead l pods) keep w) := by
  have HR := Lib.hid hr
  have HS := Lib.hid hs
  obtain ⟨hk1, hk2⟩ := hk
  clear hr hs
  go_enter Try.func25, Try.ntmps25
  go_wp2_with fail
  refine (dead_any l pods A B c d w HR.out HS.out hl hm).mono ?_; rintro e w1 ⟨m, hS, A', c', rfl, hO, hB⟩
  have hml : m.length ≤ 100000 := by
    obtain ⟨S, hp, _, hme⟩ := hS
    rw [hme, List.length_map, hp.length_eq]
    have := List.length_filter_le (isDead pods) l
    omega
  obtain ⟨_, hcap, hcap2⟩ := hO.cap
  have HH := Lib.hid (And.intro hS (And.intro hO hB))
  clear hS hO hB
  obtain ⟨n, hn⟩ : ∃ n : Nat, n = goes m.length keep := ⟨_, rfl⟩
  have hnl : n ≤ m.length := by rw [hn]; exact goes_le _ _
  have HN := Lib.hid hn
  have hfin : ∀ v, v = Value.slice A' n c' → (∃ m', SortedDead l pods m' ∧ GivesTexts (m'.take (goes m'.length keep)) w (.returned v) w1) := fun v hv => by
    refine ⟨m, HH.out.1, A', c', ?_, HH.out.2.1.take_ _ (goes_le _ _), HH.out.2.2⟩
    rw [hv, HN.out, List.length_take, Nat.min_eq_left (goes_le _ _)]
  have HF := Lib.hid hfin
  clear hfin
  by_cases hneg : keep < 0
  · have hn2 : n = m.length := by rw [hn]; unfold goes; rw [if_pos hneg]
    clear hn
    have b1 : ((m.length : Int) - 0) = (m.length : Int) := by omega
    have b2 : (m.length : Int) ≤ (c' : Int) := by omega
    have b3 : max keep 0 = 0 := by omega
    have b4 : max (m.length : Int) 0 = (m.length : Int) := by omega
    subst hn2
    go_wp2_with fail
    go_ret
    exact HF.out _ rfl
  · obtain ⟨K, rfl⟩ := Int.eq_ofNat_of_zero_le (show 0 ≤ keep by omega)
    have hn2 : n = m.length - K := by rw [hn]; unfold goes; rw [if_neg hneg]; rfl
    have b2 : (n : Int) ≤ (c' : Int) := by omega
    have b3 : max (K : Int) 0 = (K : Int) := by omega
    have b4 : max ((m.length : Int) - (K : Int)) 0 = (n : Int) := by omega
    clear hn hn2 hneg
    go_wp2_with fail
    go_ret
    exact HF.out _ rfl

theorem AllTold.len {l : List Cn} {pods m : List ByteArray} (h : AllTold l pods m) : m.length ≤ l.length := by
  obtain ⟨S, rfl, hT, _⟩ := h
  rw [List.length_map]; exact hT.len
set_option maxHeartbeats 2000000 in
theorem refExtra_any (l : List Cn) (pods : List ByteArray) (keep0 : Int) (A B : Option Addr) (c d : Nat) (w : World) (hr : Rds w encC A l) (hs : Rds w encS B pods) (hl : l.length ≤ 100000) (hm : pods.length ≤ 9223372036854775807) (hk : I64 keep0) :
    Calls Try.prog 26 #[.slice A l.length c, .slice B pods.length d, .int .i64 keep0] w (GivesTake (AllTold l pods) keep0 w) := by
  have HR := Lib.hid hr
  have HS := Lib.hid hs
  obtain ⟨hk1, hk2⟩ := hk
  clear hr hs
  go_enter Try.func26, Try.ntmps26
  go_wp2_with fail
  refine (refDead_any l pods A B c d w HR.out HS.out hl hm).mono ?_; rintro e w1 ⟨m, hS, A', c', rfl, hO, hB⟩
  have hml : m.length ≤ 100000 := by have := hS.len; omega
  have HH := Lib.hid (And.intro hS (And.intro hO hB))
  clear hS hO hB
  obtain ⟨n, hn⟩ : ∃ n : Nat, n = goes m.length keep0 := ⟨_, rfl⟩
  have hnl : n ≤ m.length := by rw [hn]; exact goes_le _ _
  have HN := Lib.hid hn
  by_cases hneg : keep0 < 0
  · have hn2 : n = m.length := by rw [hn]; unfold goes; rw [if_pos hneg]
    have hn3 : m.length ≤ n := by omega
    have b0 : decide (keep0 < 0) = true := decide_eq_true hneg
    clear hn hn2
    go_wp2_with fail
    go_loopw [8, 9] (fun b i wr => ∃ (k : Nat) (s : List ByteArray) (A2 : Option Addr) (c2 : Nat), k ≤ n ∧ i = .int .i64 k ∧ s = m.take k ∧ b = .slice A2 s.length c2 ∧ Own wr w1.heap.size 9 encS (.slice A2 s.length c2) s ∧ Below w1.heap.size w1 wr) (fun _ i _ => n - (intOf i).toNat)
    case atStart => exact ⟨0, [], none, 0, by omega, rfl, rfl, rfl, Own.nil_ _ _ _ _, Below.refl _ _⟩
    case round =>
      obtain ⟨k, s, A2, c2, hk, rfl, hs', rfl, hO, hB⟩ := hrel
      have HM := Lib.hid hs'
      have HB := Lib.hid (And.intro hO hB)
      have hsl : s.length ≤ 100000 := by rw [hs', List.length_take]; omega
      clear hs' hO hB
      by_cases hlt : k < n
      · have hkm : k < m.length := by omega
        obtain ⟨b, off, rfl, hb, hc0⟩ := (HH.out.2.1.toRds.below HB.out.2).str hkm
        have dk : decide ((k : Int) < (m.length : Int)) = true := decide_eq_true (by omega)
        have dk1 : decide ((k : Int) < (m.length : Int) - 0) = true := decide_eq_true (by omega)
        have dk2 : (k : Int) < (m.length : Int) := by omega
        have hnext : m.take (k + 1) = m.take k ++ [m[k]] := List.take_succ_eq_append_getElem hkm
        generalize m[k] = x at *
        have HNX := Lib.hid hnext
        have HO1 : Hid (Own (wr.alloc (.cells #[.string x] 9)) w1.heap.size 9 encS (.slice A2 s.length c2) s ∧ Below w1.heap.size w1 (wr.alloc (.cells #[.string x] 9)) ∧ Rds (wr.alloc (.cells #[.string x] 9)) encS (some ⟨wr.heap.size, 0, none⟩) [x]) := ⟨HB.out.1.alloc _, HB.out.2.alloc HB.out.2.size _, Rds.made wr encS [x] 9 #[.string x] (0, 0) rfl⟩
        clear hnext
        go_wp2_with (at_builtin; refine wl_app elemS encS rfl (.tmp 29) (.tmp 34) rfl w1.heap.size _ s rfl HO1.out.1 _ [x] 1 rfl HO1.out.2.2 (by simp; omega) (by simp; omega) HO1.out.2.1.size ?_; intro A3 k3 w3 hown3 hgrow3 _; have hbel3 := HO1.out.1.belowGrown HO1.out.2.1 hgrow3 (Nat.le_refl _) HO1.out.2.1.size; have HX3 := Lib.hid (And.intro hown3 hbel3); clear hown3 hgrow3 hbel3)
        have hl1 : s.length + [x].length = (s ++ [x]).length := (List.length_append).symm
        have hx3 := HX3.out.1
        rw [hl1] at hx3
        go_roundw
        case rel => exact ⟨k + 1, s ++ [x], A3, k3, by omega, by go_num, by rw [HNX.out]; exact congrArg (· ++ [x]) HM.out, by first | rfl | (rw [← hl1]; rfl), hx3, HX3.out.2⟩
        case measure => simp [intOf]; omega
      · obtain rfl : k = n := by omega
        have HE : Hid (s = m.take (goes m.length keep0)) := by have := HM.out; show _ = _; rw [this, ← HN.out]
        by_cases hkm : k < m.length
        · exfalso; omega
        · have dk : decide ((k : Int) < (m.length : Int)) = false := decide_eq_false (by omega)
          go_wp2_with fail
          go_ret
          exact ⟨m, HH.out.1, A2, c2, by rw [← HE.out]; rfl, by rw [← HE.out]; exact HB.out.1.mono HH.out.2.2.size, HH.out.2.2.trans (HB.out.2.mono HH.out.2.2.size)⟩
  · obtain ⟨K, hK⟩ := Int.eq_ofNat_of_zero_le (show 0 ≤ keep0 by omega)
    have hn2 : n = m.length - K := by rw [hn]; unfold goes; rw [if_neg hneg, hK]; rfl
    have hn3 : n = m.length - K ∨ False := Or.inl hn2
    have b0 : decide ((K : Int) < 0) = false := decide_eq_false (by omega)
    have hKm : (K : Int) ≤ 9223372036854775807 := by omega
    clear hn hneg
    subst hK
    have hn4 : m.length ≤ n + K ∧ (n + K ≤ m.length ∨ n = 0) := by omega
    clear hn2 hn3
    go_wp2_with fail
    go_loopw [8, 9] (fun b i wr => ∃ (k : Nat) (s : List ByteArray) (A2 : Option Addr) (c2 : Nat), k ≤ n ∧ i = .int .i64 k ∧ s = m.take k ∧ b = .slice A2 s.length c2 ∧ Own wr w1.heap.size 9 encS (.slice A2 s.length c2) s ∧ Below w1.heap.size w1 wr) (fun _ i _ => n - (intOf i).toNat)
    case atStart => exact ⟨0, [], none, 0, by omega, rfl, rfl, rfl, Own.nil_ _ _ _ _, Below.refl _ _⟩
    case round =>
      obtain ⟨k, s, A2, c2, hk, rfl, hs', rfl, hO, hB⟩ := hrel
      have HM := Lib.hid hs'
      have HB := Lib.hid (And.intro hO hB)
      have hsl : s.length ≤ 100000 := by rw [hs', List.length_take]; omega
      clear hs' hO hB
      by_cases hlt : k < n
      · have hkm : k < m.length := by omega
        obtain ⟨b, off, rfl, hb, hc0⟩ := (HH.out.2.1.toRds.below HB.out.2).str hkm
        have dk : decide ((k : Int) < (m.length : Int)) = true := decide_eq_true (by omega)
        have dk1 : decide ((k : Int) < (m.length : Int) - K) = true := decide_eq_true (by omega)
        have dk2 : (k : Int) < (m.length : Int) := by omega
        have hnext : m.take (k + 1) = m.take k ++ [m[k]] := List.take_succ_eq_append_getElem hkm
        generalize m[k] = x at *
        have HNX := Lib.hid hnext
        have HO1 : Hid (Own (wr.alloc (.cells #[.string x] 9)) w1.heap.size 9 encS (.slice A2 s.length c2) s ∧ Below w1.heap.size w1 (wr.alloc (.cells #[.string x] 9)) ∧ Rds (wr.alloc (.cells #[.string x] 9)) encS (some ⟨wr.heap.size, 0, none⟩) [x]) := ⟨HB.out.1.alloc _, HB.out.2.alloc HB.out.2.size _, Rds.made wr encS [x] 9 #[.string x] (0, 0) rfl⟩
        clear hnext
        go_wp2_with (at_builtin; refine wl_app elemS encS rfl (.tmp 29) (.tmp 34) rfl w1.heap.size _ s rfl HO1.out.1 _ [x] 1 rfl HO1.out.2.2 (by simp; omega) (by simp; omega) HO1.out.2.1.size ?_; intro A3 k3 w3 hown3 hgrow3 _; have hbel3 := HO1.out.1.belowGrown HO1.out.2.1 hgrow3 (Nat.le_refl _) HO1.out.2.1.size; have HX3 := Lib.hid (And.intro hown3 hbel3); clear hown3 hgrow3 hbel3)
        have hl1 : s.length + [x].length = (s ++ [x]).length := (List.length_append).symm
        have hx3 := HX3.out.1
        rw [hl1] at hx3
        go_roundw
        case rel => exact ⟨k + 1, s ++ [x], A3, k3, by omega, by go_num, by rw [HNX.out]; exact congrArg (· ++ [x]) HM.out, by first | rfl | (rw [← hl1]; rfl), hx3, HX3.out.2⟩
        case measure => simp [intOf]; omega
      · obtain rfl : k = n := by omega
        have HE : Hid (s = m.take (goes m.length (K : Int))) := by have := HM.out; show _ = _; rw [this, ← HN.out]
        by_cases hkm : k < m.length
        · have dk : decide ((k : Int) < (m.length : Int)) = true := decide_eq_true (by omega)
          have dk1 : decide ((k : Int) < (m.length : Int) - K) = false := decide_eq_false (by omega)
          go_wp2_with fail
          go_ret
          exact ⟨m, HH.out.1, A2, c2, by rw [← HE.out]; rfl, by rw [← HE.out]; exact HB.out.1.mono HH.out.2.2.size, HH.out.2.2.trans (HB.out.2.mono HH.out.2.2.size)⟩
        · have dk : decide ((k : Int) < (m.length : Int)) = false := decide_eq_false (by omega)
          go_wp2_with fail
          go_ret
          exact ⟨m, HH.out.1, A2, c2, by rw [← HE.out]; rfl, by rw [← HE.out]; exact HB.out.1.mono HH.out.2.2.size, HH.out.2.2.trans (HB.out.2.mono HH.out.2.2.size)⟩
end Go.Proofs.Ytfaklhdafpbkmaa
