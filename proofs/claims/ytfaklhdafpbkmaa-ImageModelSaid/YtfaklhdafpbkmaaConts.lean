/- Containers: Fit, slices.Contains, the lost ones. -/
import Derived.Test.YtfaklhdafpbkmaaTexts
import Derived.Deep.RegionLaw
import Derived.BigQuiet
namespace Go.Proofs.Ytfaklhdafpbkmaa
open Go.RowKit

/-- a container, as data -/
structure Cn where
  id : ByteArray
  state : Int
  tries : Int
  last : Int
abbrev Cn.cells (p : Cn) : Array Value := #[.string p.id, .int .i64 p.state, .int .i64 p.tries, .int .i64 p.last]
structure Cn.Wf (p : Cn) : Prop where
  state : I64 p.state
  tries : I64 p.tries
  last : I64 p.last
  id : p.id.size ≤ 9223372036854775807
def encC : Enc Cn 4 := ⟨fun p => p.cells.toList, fun _ => rfl, fun p u hu => by simp at hu; rcases hu with h | h | h | h <;> subst h <;> rfl, by decide⟩
theorem Rds.cn {w : World} {A : Option Addr} {l : List Cn} (h : Rds w encC A l) {i : Nat} (hi : i < l.length) : ∃ b off, A = some ⟨b, off, none⟩ ∧ b < w.heap.size ∧
    w.cell? ⟨b, off + i * 4, none⟩ = some (.string l[i].id) ∧ w.cell? ⟨b, off + i * 4 + 1, none⟩ = some (.int .i64 l[i].state) ∧ w.cell? ⟨b, off + i * 4 + 2, none⟩ = some (.int .i64 l[i].tries) ∧ w.cell? ⟨b, off + i * 4 + 3, none⟩ = some (.int .i64 l[i].last) := by
  obtain ⟨b, off, e, hb, hc⟩ := h.at_ hi
  exact ⟨b, off, e, hb, by have := hc 0 (.string l[i].id) rfl; simpa using this, hc 1 (.int .i64 l[i].state) rfl, hc 2 (.int .i64 l[i].tries) rfl, hc 3 (.int .i64 l[i].last) rfl⟩

/-- is a text less than another? -/
def blt (a b : ByteArray) : Bool := Op.bytesLess a.toList b.toList

/-! ### slices.Contains -/
theorem index_any (l : List ByteArray) (s : ByteArray) (A : Option Addr) (c : Nat) (w : World) (hr : Rds w encS A l) (hm : l.length ≤ 9223372036854775807) :
    Calls Try.prog 65 #[.slice A l.length c, .string s] w fun e w' => (∃ z : Int, e = .returned (.int .i64 z) ∧ decide (0 ≤ z) = hasB l s) ∧ w = w' := by
  have HR := Lib.hid hr
  clear hr
  go_enter Try.func65, Try.ntmps65
  go_wp2_with fail
  go_loop [8] (fun i => ∃ k : Nat, k ≤ l.length ∧ i = .int .i64 k ∧ hasB (l.take k) s = false) (fun i => l.length - (intOf i).toNat)
  case atStart => exact ⟨0, by omega, rfl, rfl⟩
  case round =>
    obtain ⟨k, hk, rfl, h0⟩ := hrel
    have H0 := Lib.hid h0
    clear h0
    by_cases hlt : k < l.length
    · obtain ⟨b, off, rfl, hb, hcell⟩ := HR.out.str hlt
      have dk : decide ((k : Int) < (l.length : Int)) = true := decide_eq_true (by omega)
      have dk2 : (k : Int) < (l.length : Int) := by omega
      have hcomm : (s.toList == l[k].toList) = (l[k].toList == s.toList) := by rw [Bool.eq_iff_iff]; simp only [beq_iff_eq]; exact eq_comm
      cases he : (l[k].toList == s.toList)
      · have HN := Lib.hid (hasB_next l s k hlt H0.out he)
        have he2 := hcomm.trans he
        generalize l[k] = t at *
        clear hcomm he
        go_wp2_with fail
        go_round
        case rel => exact ⟨k + 1, by omega, by go_num, HN.out⟩
        case measure => simp [intOf]; omega
      · have HY := Lib.hid (hasB_yes l s k hlt he)
        have he2 := hcomm.trans he
        generalize l[k] = t at *
        clear hcomm he
        go_wp2_with fail
        go_ret
        exact ⟨⟨_, rfl, by rw [HY.out]; simp⟩, rfl⟩
    · obtain rfl : k = l.length := by omega
      have HF := Lib.hid (show hasB l s = false by have := H0.out; rwa [List.take_length] at this)
      have dk : decide ((l.length : Int) < (l.length : Int)) = false := by simp
      go_wp2_with fail
      go_ret
      exact ⟨⟨_, rfl, by rw [HF.out]; simp⟩, rfl⟩
theorem contains_any (l : List ByteArray) (s : ByteArray) (A : Option Addr) (c : Nat) (w : World) (hr : Rds w encS A l) (hm : l.length ≤ 9223372036854775807) :
    Calls Try.prog 49 #[.slice A l.length c, .string s] w fun e w' => e = .returned (.bool (hasB l s)) ∧ w = w' := by
  have HR := Lib.hid hr
  clear hr
  go_enter Try.func49, Try.ntmps49
  go_wp2_with fail
  refine (index_any l s A c w HR.out hm).mono ?_; rintro e w1 ⟨⟨z, rfl, hz⟩, rfl⟩
  have HZ := Lib.hid hz
  clear hz
  go_wp2_with fail
  go_ret
  exact ⟨ret_bool HZ.out, rfl⟩

/-! ### Fit -/
/-- may container i stand where it does? -/
def okAt (l : List Cn) (i : Nat) : Bool :=
  match l[i]? with
  | none => true
  | some x => decide (x.id.size ≤ 60) && (match i with | 0 => true | j + 1 => match l[j]? with | some y => blt y.id x.id | none => true)
def fitB (l : List Cn) : Bool := decide (l.length ≤ 60) && (List.range l.length).all (okAt l)
theorem okAt_succ (l : List Cn) (j : Nat) (x y : Cn) (hx : l[j + 1]? = some x) (hy : l[j]? = some y) (hs : x.id.size ≤ 60) : okAt l (j + 1) = blt y.id x.id := by
  unfold okAt; rw [hx]; simp only [hy]; rw [decide_eq_true hs]; rfl
theorem fitB_no (l : List Cn) (k : Nat) (hk : k < l.length) (h : okAt l k = false) : fitB l = false := by
  unfold fitB
  have : (List.range l.length).all (okAt l) = false := by rw [List.all_eq_false]; exact ⟨k, List.mem_range.2 hk, by simp [h]⟩
  rw [this, Bool.and_false]
theorem fit_any (l : List Cn) (A : Option Addr) (c : Nat) (w : World) (hr : Rds w encC A l) (hm : l.length ≤ 9223372036854775807) :
    Calls Try.prog 18 #[.slice A l.length c] w fun e w' => e = .returned (.bool (fitB l)) ∧ ∃ n, w' = w.drewN n := by
  have HR := Lib.hid hr
  clear hr
  by_cases hlen : l.length ≤ 60
  · have hl2 : (l.length : Int) ≤ 60 := by omega
    go_enter Try.func18, Try.ntmps18
    go_wp2_with fail
    go_loopw [3] (fun i wr => ∃ k n : Nat, k ≤ l.length ∧ i = .int .i64 k ∧ (List.range k).all (okAt l) = true ∧ wr = w.drewN n) (fun i _ => l.length - (intOf i).toNat)
    case atStart => exact ⟨0, 0, by omega, rfl, rfl, rfl⟩
    case round =>
      obtain ⟨k, n, hk, rfl, h0, rfl⟩ := hrel
      have H0 := Lib.hid h0
      clear h0
      by_cases hlt : k < l.length
      · obtain ⟨b, off, rfl, hb, cx, _, _, _⟩ := HR.out.cn hlt
        have dk : decide ((k : Int) < (l.length : Int)) = true := decide_eq_true (by omega)
        have dk2 : (k : Int) < (l.length : Int) := by omega
        have dk4 : k < l.length := hlt
        have hx : l[k]? = some l[k] := List.getElem?_eq_getElem hlt
        have hnext : okAt l k = true → (List.range (k + 1)).all (okAt l) = true := fun h => by rw [List.range_succ, List.all_append, H0.out, List.all_cons, h]; rfl
        have hno := fitB_no l k hlt
        by_cases h60 : (60 : Int) < l[k].id.size
        · have HN := Lib.hid (hno (by unfold okAt; rw [hx]; simp; intro h; omega))
          have d60 : decide ((60 : Int) < l[k].id.size) = true := decide_eq_true h60
          generalize l[k] = x at *
          clear hnext hno hx h60
          go_wp2_with fail
          go_quiet (fail)
          go_wp2_with fail
          go_ret
          exact ⟨ret_bool HN.out.symm, _, World.drewN_drewN _ _ _⟩
        · have d60 : decide ((60 : Int) < l[k].id.size) = false := decide_eq_false h60
          have hs : l[k].id.size ≤ 60 := by omega
          rcases Nat.eq_zero_or_pos k with h0 | h0
          · have HY := Lib.hid (hnext (by unfold okAt; rw [hx]; simp [hs]; subst h0; rfl))
            have d0 : decide ((0 : Int) < (k : Int)) = false := decide_eq_false (by omega)
            have d0n : decide (0 < k) = false := decide_eq_false (by omega)
            generalize l[k] = x at *
            clear hnext hno hx h60 h0 hs
            go_wp2_with fail
            go_quiet (fail)
            go_wp2_with fail
            go_roundw
            case rel => exact ⟨k + 1, _, by omega, by go_num, HY.out, rfl⟩
            case measure => simp [intOf]; omega
          · obtain ⟨j, hj⟩ : ∃ j, k = j + 1 := ⟨k - 1, by omega⟩
            have hjl : j < l.length := by omega
            obtain ⟨b', off', e, hb', cy, _, _, _⟩ := HR.out.cn hjl
            injection e with e
            injection e with e1 e2
            subst e1
            subst e2
            have hy : l[j]? = some l[j] := List.getElem?_eq_getElem hjl
            have d0 : decide ((0 : Int) < (k : Int)) = true := decide_eq_true (by omega)
            have d0n : decide (0 < k) = true := decide_eq_true (by omega)
            have w1 : IntKind.i64.wrap ((k : Int) - 1) = (j : Int) := by rw [IntKind.wrap_i64]; omega
            have w2 : (k : Int) - 1 = (j : Int) := by omega
            have w3 : (j : Int) < (l.length : Int) := by omega
            have hok : okAt l k = blt l[j].id l[k].id := by have := okAt_succ l j l[k] l[j] (by rw [← hj]; exact hx) hy hs; rwa [← hj] at this
            have hby : blt l[j].id l[k].id = Op.bytesLess l[j].id.toList l[k].id.toList := rfl
            cases hbl : blt l[j].id l[k].id
            · have HN := Lib.hid (hno (hok.trans hbl))
              have dl := hby.symm.trans hbl
              generalize l[k] = x at *
              generalize l[j] = y at *
              clear hnext hno hx h60 h0 hs hok hby hbl hj hy
              go_wp2_with fail
              go_quiet (fail)
              go_wp2_with fail
              go_ret
              exact ⟨ret_bool HN.out.symm, _, World.drewN_drewN _ _ _⟩
            · have HY := Lib.hid (hnext (hok.trans hbl))
              have dl := hby.symm.trans hbl
              generalize l[k] = x at *
              generalize l[j] = y at *
              clear hnext hno hx h60 h0 hs hok hby hbl hj hy
              go_wp2_with fail
              go_quiet (fail)
              go_wp2_with fail
              go_roundw
              case rel => exact ⟨k + 1, _, by omega, by go_num, HY.out, rfl⟩
              case measure => simp [intOf]; omega
      · obtain rfl : k = l.length := by omega
        have HF := Lib.hid (show fitB l = true by unfold fitB; rw [H0.out, decide_eq_true hlen]; rfl)
        have dk : decide ((l.length : Int) < (l.length : Int)) = false := by simp
        go_wp2_with fail
        go_ret
        exact ⟨ret_bool HF.out.symm, _, rfl⟩
  · have hl2 : (60 : Int) < (l.length : Int) := by omega
    have HF := Lib.hid (show fitB l = false by unfold fitB; rw [decide_eq_false hlen]; rfl)
    clear hlen
    go_enter Try.func18, Try.ntmps18
    go_wp2_with fail
    go_ret
    exact ⟨ret_bool HF.out.symm, 0, rfl⟩
end Go.Proofs.Ytfaklhdafpbkmaa
