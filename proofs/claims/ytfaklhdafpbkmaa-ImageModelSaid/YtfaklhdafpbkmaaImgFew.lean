/- bilgeref15's Few and Right. -/
import Derived.Test.YtfaklhdafpbkmaaImgs
import Derived.BigQuiet
namespace Go.Proofs.Ytfaklhdafpbkmaa
open Go.RowKit

def fewIB (l : List Im) : Bool := (l.take 100).all (fun t => decide (t.name.size ≤ 60)) && decide (l.length ≤ 60)
theorem fewIB_no (l : List Im) (k : Nat) (hk : k < l.length) (h2 : k < 100) (h : (60 : Int) < l[k].name.size) : fewIB l = false := by
  unfold fewIB
  have : (l.take 100).all (fun t => decide (t.name.size ≤ 60)) = false := by
    rw [List.all_eq_false]
    exact ⟨l[k], List.mem_take_iff_getElem.2 ⟨k, by omega, rfl⟩, by simp; omega⟩
  rw [this]; rfl
theorem fewIB_yes (l : List Im) (k : Nat) (hk : k ≤ l.length) (h2 : k ≤ 100) (he : ¬ (k < l.length ∧ k < 100)) (h : (l.take k).all (fun t => decide (t.name.size ≤ 60)) = true) : fewIB l = decide ((l.length : Int) ≤ 60) := by
  unfold fewIB
  have e : l.take 100 = l.take k := by
    rcases Nat.lt_or_ge k 100 with h3 | h3
    · obtain rfl : k = l.length := by omega
      rw [List.take_of_length_le (by omega), List.take_of_length_le (Nat.le_refl _)]
    · obtain rfl : k = 100 := by omega
      rfl
  rw [e, h, Bool.true_and]
  congr 1
  apply propext
  omega
theorem fewI_any (l : List Im) (A : Option Addr) (c : Nat) (w : World) (hr : Rds w encI A l) (hm : l.length ≤ 9223372036854775807) :
    Calls Try.prog 29 #[.slice A l.length c] w fun e w' => e = .returned (.bool (fewIB l)) ∧ w = w' := by
  have HR := Lib.hid hr
  clear hr
  go_enter Try.func29, Try.ntmps29
  go_wp2_with fail
  go_loop [3] (fun i => ∃ k : Nat, k ≤ l.length ∧ k ≤ 100 ∧ i = .int .i64 k ∧ (l.take k).all (fun t => decide (t.name.size ≤ 60)) = true) (fun i => l.length - (intOf i).toNat)
  case atStart => exact ⟨0, by omega, by omega, rfl, rfl⟩
  case round =>
    obtain ⟨k, hk, hk2, rfl, h0⟩ := hrel
    have H0 := Lib.hid h0
    clear h0
    by_cases hlt : k < l.length ∧ k < 100
    · obtain ⟨h1, h2⟩ := hlt
      obtain ⟨b, off, rfl, hb, hcell, _, _⟩ := HR.out.im h1
      have dk : decide ((k : Int) < (l.length : Int)) = true := decide_eq_true (by omega)
      have dk1 : decide ((k : Int) < 100) = true := decide_eq_true (by omega)
      have dk2 : (k : Int) < (l.length : Int) := by omega
      by_cases he : (60 : Int) < l[k].name.size
      · have HN := Lib.hid (fewIB_no l k h1 h2 he)
        generalize l[k] = t at *
        go_wp2_with fail
        go_ret
        exact ⟨ret_bool HN.out.symm, rfl⟩
      · have HY := Lib.hid (allsnoc (fun t : Im => decide (t.name.size ≤ 60)) l k h1 H0.out (decide_eq_true (by omega)))
        have he2 : (l[k].name.size : Int) ≤ 60 := by omega
        generalize l[k] = t at *
        clear he
        go_wp2_with fail
        go_round
        case rel => exact ⟨k + 1, by omega, by omega, by go_num, HY.out⟩
        case measure => simp [intOf]; omega
    · have HF := Lib.hid (fewIB_yes l k hk hk2 hlt H0.out)
      by_cases h1 : k < l.length
      · have dk : decide ((k : Int) < (l.length : Int)) = true := decide_eq_true (by omega)
        have dk1 : decide ((k : Int) < 100) = false := decide_eq_false (by omega)
        clear hlt
        go_wp2_with fail
        go_ret
        exact ⟨ret_bool HF.out.symm, rfl⟩
      · have dk : decide ((k : Int) < (l.length : Int)) = false := decide_eq_false (by omega)
        clear hlt
        go_wp2_with fail
        go_ret
        exact ⟨ret_bool HF.out.symm, rfl⟩

/-- may image i stand where it does? -/
def okIm (l : List Im) (i : Nat) : Bool :=
  match l[i]? with
  | none => true
  | some x => (decide (0 ≤ x.size) && decide (0 ≤ x.last)) && (match i with | 0 => true | j + 1 => match l[j]? with | some y => blt y.name x.name | none => true)
def rightIB (l : List Im) : Bool := (List.range l.length).all (okIm l)
theorem okIm_succ (l : List Im) (j : Nat) (x y : Im) (hx : l[j + 1]? = some x) (hy : l[j]? = some y) (h1 : 0 ≤ x.size) (h2 : 0 ≤ x.last) : okIm l (j + 1) = blt y.name x.name := by
  unfold okIm; rw [hx]; simp only [hy]; rw [decide_eq_true h1, decide_eq_true h2]; rfl
theorem rightIB_no (l : List Im) (k : Nat) (hk : k < l.length) (h : okIm l k = false) : rightIB l = false := by
  unfold rightIB
  rw [List.all_eq_false]; exact ⟨k, List.mem_range.2 hk, by simp [h]⟩
set_option maxHeartbeats 1000000 in
theorem rightI_any (l : List Im) (A : Option Addr) (c : Nat) (w : World) (hr : Rds w encI A l) (hm : l.length ≤ 9223372036854775807) :
    Calls Try.prog 30 #[.slice A l.length c] w fun e w' => e = .returned (.bool (rightIB l)) ∧ ∃ n, w' = w.drewN n := by
  have HR := Lib.hid hr
  clear hr
  go_enter Try.func30, Try.ntmps30
  go_wp2_with fail
  go_loopw [3] (fun i wr => ∃ k n : Nat, k ≤ l.length ∧ i = .int .i64 k ∧ (List.range k).all (okIm l) = true ∧ wr = w.drewN n) (fun i _ => l.length - (intOf i).toNat)
  case atStart => exact ⟨0, 0, by omega, rfl, rfl, rfl⟩
  case round =>
    obtain ⟨k, n, hk, rfl, h0, rfl⟩ := hrel
    have H0 := Lib.hid h0
    clear h0
    by_cases hlt : k < l.length
    · obtain ⟨b, off, rfl, hb, cx, cs, cl⟩ := HR.out.im hlt
      have dk : decide ((k : Int) < (l.length : Int)) = true := decide_eq_true (by omega)
      have dk2 : (k : Int) < (l.length : Int) := by omega
      have hx : l[k]? = some l[k] := List.getElem?_eq_getElem hlt
      have hnext : okIm l k = true → (List.range (k + 1)).all (okIm l) = true := fun h => by rw [List.range_succ, List.all_append, H0.out, List.all_cons, h]; rfl
      have hno := rightIB_no l k hlt
      by_cases h60 : l[k].size < 0
      · have HN := Lib.hid (hno (by unfold okIm; rw [hx]; simp only []; rw [decide_eq_false (by omega)]; rfl))
        have d60 : decide (l[k].size < 0) = true := decide_eq_true h60
        generalize l[k] = x at *
        clear hnext hno hx h60
        go_wp2_with fail
        go_quiet (fail)
        go_wp2_with fail
        go_ret
        exact ⟨ret_bool HN.out.symm, _, World.drewN_drewN _ _ _⟩
      · have d60 : decide (l[k].size < 0) = false := decide_eq_false h60
        have hs : 0 ≤ l[k].size := by omega
        by_cases h61 : l[k].last < 0
        · have HN := Lib.hid (hno (by unfold okIm; rw [hx]; simp only []; rw [decide_eq_true hs, decide_eq_false (by omega)]; rfl))
          have d61 : decide (l[k].last < 0) = true := decide_eq_true h61
          generalize l[k] = x at *
          clear hnext hno hx h60 h61 hs
          go_wp2_with fail
          go_quiet (fail)
          go_wp2_with fail
          go_ret
          exact ⟨ret_bool HN.out.symm, _, World.drewN_drewN _ _ _⟩
        · have d61 : decide (l[k].last < 0) = false := decide_eq_false h61
          have hs2 : 0 ≤ l[k].last := by omega
          rcases Nat.eq_zero_or_pos k with h0 | h0
          · have HY := Lib.hid (hnext (by unfold okIm; rw [hx]; simp only []; rw [decide_eq_true hs, decide_eq_true hs2]; subst h0; rfl))
            have d0 : decide ((0 : Int) < (k : Int)) = false := decide_eq_false (by omega)
            have d0n : decide (0 < k) = false := decide_eq_false (by omega)
            generalize l[k] = x at *
            clear hnext hno hx h60 h61 h0 hs hs2
            go_wp2_with fail
            go_quiet (fail)
            go_wp2_with fail
            go_roundw
            case rel => exact ⟨k + 1, _, by omega, by go_num, HY.out, rfl⟩
            case measure => simp [intOf]; omega
          · obtain ⟨j, hj⟩ : ∃ j, k = j + 1 := ⟨k - 1, by omega⟩
            have hjl : j < l.length := by omega
            obtain ⟨b', off', e, hb', cy, _, _⟩ := HR.out.im hjl
            injection e with e
            injection e with e1 e2
            subst e1
            subst e2
            have hy : l[j]? = some l[j] := List.getElem?_eq_getElem hjl
            have d0 : decide ((0 : Int) < (k : Int)) = true := decide_eq_true (by omega)
            have d0n : decide (0 < k) = true := decide_eq_true (by omega)
            have w1 : IntKind.i64.wrap ((k : Int) - 1) = (j : Int) := by rw [IntKind.wrap_i64]; omega
            have w2 : (k : Int) - 1 = (j : Int) := by omega
            have w3 : (j : Int) < (l.length : Int) := by omega
            have hok : okIm l k = blt l[j].name l[k].name := by have := okIm_succ l j l[k] l[j] (by rw [← hj]; exact hx) hy hs hs2; rwa [← hj] at this
            have hby : blt l[j].name l[k].name = Op.bytesLess l[j].name.toList l[k].name.toList := rfl
            cases hbl : blt l[j].name l[k].name
            · have HN := Lib.hid (hno (hok.trans hbl))
              have dl := hby.symm.trans hbl
              generalize l[k] = x at *
              generalize l[j] = y at *
              clear hnext hno hx h60 h61 h0 hs hs2 hok hby hbl hj hy
              go_wp2_with fail
              go_quiet (fail)
              go_wp2_with fail
              go_ret
              exact ⟨ret_bool HN.out.symm, _, World.drewN_drewN _ _ _⟩
            · have HY := Lib.hid (hnext (hok.trans hbl))
              have dl := hby.symm.trans hbl
              generalize l[k] = x at *
              generalize l[j] = y at *
              clear hnext hno hx h60 h61 h0 hs hs2 hok hby hbl hj hy
              go_wp2_with fail
              go_quiet (fail)
              go_wp2_with fail
              go_roundw
              case rel => exact ⟨k + 1, _, by omega, by go_num, HY.out, rfl⟩
              case measure => simp [intOf]; omega
    · obtain rfl : k = l.length := by omega
      have HF := Lib.hid (show rightIB l = true from H0.out)
      have dk : decide ((l.length : Int) < (l.length : Int)) = false := by simp
      go_wp2_with fail
      go_ret
      exact ⟨ret_bool HF.out.symm, _, rfl⟩

end Go.Proofs.Ytfaklhdafpbkmaa
