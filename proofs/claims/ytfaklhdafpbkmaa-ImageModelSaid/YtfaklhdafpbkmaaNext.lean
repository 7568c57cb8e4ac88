/- The reference's next: of the dead ones that aren't told yet, the one that goes first; its Dead, its Extra. -/
import Derived.Test.YtfaklhdafpbkmaaLost
import Derived.Sort.Walk0
namespace Go.Proofs.Ytfaklhdafpbkmaa
open Go.RowKit

theorem blt_eq (a b : ByteArray) : blt a b = decide (a.data.toList < b.data.toList) := by
  unfold blt; rw [bytesLess_eq, ByteArray.toList_eq, ByteArray.toList_eq]
theorem blt_irrefl (a : ByteArray) : blt a a = false := by rw [blt_eq]; exact decide_eq_false (List.lt_irrefl _)
theorem blt_trans {a b c : ByteArray} (h1 : blt a b = true) (h2 : blt b c = true) : blt a c = true := by
  rw [blt_eq] at *
  exact decide_eq_true (List.lt_trans (of_decide_eq_true h1) (of_decide_eq_true h2))
theorem data_inj {a b : ByteArray} (h : a.data.toList = b.data.toList) : a = b := by
  obtain ⟨⟨x⟩⟩ := a
  obtain ⟨⟨y⟩⟩ := b
  simp only at h
  rw [h]
theorem blt_total {a b : ByteArray} (h1 : blt a b = false) (h2 : blt b a = false) : a = b := by
  rw [blt_eq] at *
  have h1' := of_decide_eq_false h1
  have h2' := of_decide_eq_false h2
  refine data_inj ?_
  exact List.le_antisymm (List.not_lt.1 h2') (List.not_lt.1 h1')

/-- one goes ahead of another: by Last, then by Id -/
def cnlt (x y : Cn) : Bool := decide (x.last < y.last) || ((x.last == y.last) && blt x.id y.id)
theorem cnlt_iff (x y : Cn) : cnlt x y = true ↔ x.last < y.last ∨ (x.last = y.last ∧ blt x.id y.id = true) := by unfold cnlt; simp
theorem cnlt_irrefl (x : Cn) : cnlt x x = false := by
  cases h : cnlt x x
  · rfl
  · rw [cnlt_iff] at h
    rcases h with h | ⟨_, h⟩
    · omega
    · rw [blt_irrefl] at h; cases h
theorem cnlt_trans {x y z : Cn} (h1 : cnlt x y = true) (h2 : cnlt y z = true) : cnlt x z = true := by
  rw [cnlt_iff] at *
  rcases h1 with h1 | ⟨h1, h1'⟩ <;> rcases h2 with h2 | ⟨h2, h2'⟩
  · left; omega
  · left; omega
  · left; omega
  · right; exact ⟨by omega, blt_trans h1' h2'⟩
theorem cnlt_total {x y : Cn} (h1 : cnlt x y = false) (h2 : cnlt y x = false) : x.last = y.last ∧ x.id = y.id := by
  have e : x.last = y.last := by
    unfold cnlt at h1 h2
    simp only [Bool.or_eq_false_iff, decide_eq_false_iff_not] at h1 h2
    omega
  unfold cnlt at h1 h2
  rw [e] at h1 h2
  simp at h1 h2
  exact ⟨e, blt_total h1 h2⟩

/-- neither up, nor a pod's, nor told -/
def cand (pods told : List ByteArray) (x : Cn) : Bool := !((x.state == 3) || (hasB pods x.id || hasB told x.id))
/-- of the first k containers the one that goes first -/
def NextTo (l : List Cn) (pods told : List ByteArray) (k : Nat) (z : Int) : Prop :=
  (z = -1 ∧ ∀ i x, i < k → l[i]? = some x → cand pods told x = false) ∨
  (∃ (j : Nat) (y : Cn), z = j ∧ j < k ∧ l[j]? = some y ∧ cand pods told y = true ∧ ∀ i x, i < k → l[i]? = some x → cand pods told x = true → cnlt x y = false)
section
variable {l : List Cn} {pods told : List ByteArray} {k : Nat} {z : Int}
theorem NextTo.start : NextTo l pods told 0 (-1) := Or.inl ⟨rfl, fun i x h => by omega⟩
theorem NextTo.skip {x : Cn} (h : NextTo l pods told k z) (hx : l[k]? = some x) (hc : cand pods told x = false) : NextTo l pods told (k + 1) z := by
  rcases h with ⟨e, h⟩ | ⟨j, y, e, hj, hy, hcy, h⟩
  · refine Or.inl ⟨e, fun i u hi hu => ?_⟩
    by_cases hik : i = k
    · subst hik; rw [hx] at hu; injection hu with hu; subst hu; exact hc
    · exact h i u (by omega) hu
  · refine Or.inr ⟨j, y, e, by omega, hy, hcy, fun i u hi hu hcu => ?_⟩
    by_cases hik : i = k
    · subst hik; rw [hx] at hu; injection hu with hu; subst hu; rw [hc] at hcu; cases hcu
    · exact h i u (by omega) hu hcu
theorem NextTo.first {x : Cn} (h : ∀ i u, i < k → l[i]? = some u → cand pods told u = false) (hx : l[k]? = some x) (hc : cand pods told x = true) : NextTo l pods told (k + 1) (k : Int) := by
  refine Or.inr ⟨k, x, rfl, by omega, hx, hc, fun i u hi hu hcu => ?_⟩
  by_cases hik : i = k
  · subst hik; rw [hx] at hu; injection hu with hu; subst hu; exact cnlt_irrefl _
  · rw [h i u (by omega) hu] at hcu; cases hcu
theorem NextTo.keep {x y : Cn} {j : Nat} (hj : j < k) (hy : l[j]? = some y) (hcy : cand pods told y = true) (h : ∀ i u, i < k → l[i]? = some u → cand pods told u = true → cnlt u y = false) (hx : l[k]? = some x) (hlt : cnlt x y = false) : NextTo l pods told (k + 1) (j : Int) := by
  refine Or.inr ⟨j, y, rfl, by omega, hy, hcy, fun i u hi hu hcu => ?_⟩
  by_cases hik : i = k
  · subst hik; rw [hx] at hu; injection hu with hu; subst hu; exact hlt
  · exact h i u (by omega) hu hcu
theorem NextTo.turn {x y : Cn} (h : ∀ i u, i < k → l[i]? = some u → cand pods told u = true → cnlt u y = false) (hx : l[k]? = some x) (hc : cand pods told x = true) (hlt : cnlt x y = true) : NextTo l pods told (k + 1) (k : Int) := by
  refine Or.inr ⟨k, x, rfl, by omega, hx, hc, fun i u hi hu hcu => ?_⟩
  by_cases hik : i = k
  · subst hik; rw [hx] at hu; injection hu with hu; subst hu; exact cnlt_irrefl _
  · cases hux : cnlt u x
    · rfl
    · have := cnlt_trans hux hlt
      rw [h i u (by omega) hu hcu] at this; cases this
end

def GivesInt (P : Int → Prop) (w : World) (e : Ending) (w' : World) : Prop := ∃ z : Int, e = .returned (.int .i64 z) ∧ P z ∧ ∃ n, w' = w.drewN n

set_option maxRecDepth 100000 in
set_option maxHeartbeats 4000000 in
theorem next_any (l : List Cn) (pods told : List ByteArray) (A B C : Option Addr) (c d f : Nat) (w : World) (hr : Rds w encC A l) (hs : Rds w encS B pods) (ht : Rds w encS C told) (hl : l.length ≤ 100000) (hm : pods.length ≤ 9223372036854775807) (hq : told.length ≤ 9223372036854775807) :
    Calls Try.prog 55 #[.slice A l.length c, .slice B pods.length d, .slice C told.length f] w (GivesInt (NextTo l pods told l.length) w) := by
  have HR := Lib.hid hr
  have HS := Lib.hid hs
  have HT := Lib.hid ht
  clear hr hs ht
  go_enter Try.func55, Try.ntmps55
  go_wp2_with fail
  go_loopw [7, 8] (fun b i wr => ∃ (k n : Nat) (z : Int), k ≤ l.length ∧ i = .int .i64 k ∧ b = .int .i64 z ∧ NextTo l pods told k z ∧ wr = w.drewN n) (fun _ i _ => l.length - (intOf i).toNat)
  case atStart => exact ⟨0, 0, -1, by omega, rfl, rfl, NextTo.start, rfl⟩
  case round =>
    obtain ⟨k, n, z, hk, rfl, rfl, hN, rfl⟩ := hrel
    have HN := Lib.hid hN
    clear hN
    by_cases hlt : k < l.length
    · obtain ⟨b, off, rfl, hb, hc0, hc1, _, hc3⟩ := HR.out.cn hlt
      have dk : decide ((k : Int) < (l.length : Int)) = true := decide_eq_true (by omega)
      have dk2 : (k : Int) < (l.length : Int) := by omega
      have hx := Lib.hid (List.getElem?_eq_getElem hlt)
      generalize l[k] = x at *
      have HD : Hid (cand pods told x = !((x.state == 3) || (hasB pods x.id || hasB told x.id))) := rfl
      have RS : Hid (Rds (w.drewN n) encS B pods) := HS.out.drewN n
      have RT : Hid (Rds (w.drewN n) encS C told) := HT.out.drewN n
      cases hst : (x.state == 3)
      · go_wp2_with fail
        refine (has_any pods x.id B d _ RS.out hm).mono ?_; rintro e w1 ⟨rfl, rfl⟩
        cases hhas : hasB pods x.id
        · go_wp2_with fail
          refine (has_any told x.id C f _ RT.out hq).mono ?_; rintro e w1 ⟨rfl, rfl⟩
          cases hhas2 : hasB told x.id
          · have HC : Hid (cand pods told x = true) := by show _ = _; rw [HD.out, hst, hhas, hhas2]; rfl
            clear hst hhas hhas2
            rcases HN.out with ⟨rfl, h⟩ | ⟨j, y, rfl, hj, hy, hcy, h⟩
            · have HF := Lib.hid (NextTo.first h hx.out HC.out)
              clear h
              go_wp2_with fail
              go_quiet (fail)
              go_wp2_with fail
              go_roundw
              case rel => exact ⟨k + 1, _, (k : Int), by omega, by go_num, rfl, HF.out, rfl⟩
              case measure => simp [intOf]; omega
            · have hjl : j < l.length := by omega
              obtain ⟨b', off', e, hb', he0, _, _, he3⟩ := HR.out.cn hjl
              injection e with e
              injection e with e1 e2
              subst e1
              subst e2
              have ey : l[j] = y := by have := List.getElem?_eq_getElem hjl; rw [hy] at this; injection this with this; exact this.symm
              rw [ey] at he0 he3
              have dj : (j : Int) < (l.length : Int) := by omega
              have dj0 : decide ((j : Int) < 0) = false := decide_eq_false (by omega)
              have HH := Lib.hid (And.intro hy (And.intro hcy h))
              have HL : Hid (cnlt x y = (decide (x.last < y.last) || ((x.last == y.last) && blt x.id y.id))) := rfl
              have HBL : Hid (blt x.id y.id = Op.bytesLess x.id.toList y.id.toList) := rfl
              clear hy hcy h ey
              by_cases h1 : x.last < y.last
              · have d1 : decide (x.last < y.last) = true := decide_eq_true h1
                have HF := Lib.hid (NextTo.turn HH.out.2.2 hx.out HC.out (by rw [HL.out, d1]; rfl))
                clear h1
                go_wp2_with fail
                go_quiet (fail)
                go_wp2_with fail
                go_roundw
                case rel => exact ⟨k + 1, _, (k : Int), by omega, by go_num, rfl, HF.out, rfl⟩
                case measure => simp [intOf]; omega
              · have d1 : decide (x.last < y.last) = false := decide_eq_false h1
                cases d2 : (x.last == y.last)
                · have HF := Lib.hid (NextTo.keep hj HH.out.1 HH.out.2.1 HH.out.2.2 hx.out (by rw [HL.out, d1, d2]; rfl))
                  clear h1
                  go_wp2_with fail
                  go_quiet (fail)
                  go_wp2_with fail
                  go_roundw
                  case rel => exact ⟨k + 1, _, (j : Int), by omega, by go_num, rfl, HF.out, rfl⟩
                  case measure => simp [intOf]; omega
                · cases d3 : Op.bytesLess x.id.toList y.id.toList
                  · have HF := Lib.hid (NextTo.keep hj HH.out.1 HH.out.2.1 HH.out.2.2 hx.out (by rw [HL.out, d1, d2, HBL.out, d3]; rfl))
                    clear h1
                    go_wp2_with fail
                    go_quiet (fail)
                    go_wp2_with fail
                    go_roundw
                    case rel => exact ⟨k + 1, _, (j : Int), by omega, by go_num, rfl, HF.out, rfl⟩
                    case measure => simp [intOf]; omega
                  · have HF := Lib.hid (NextTo.turn HH.out.2.2 hx.out HC.out (by rw [HL.out, d1, d2, HBL.out, d3]; rfl))
                    clear h1
                    go_wp2_with fail
                    go_quiet (fail)
                    go_wp2_with fail
                    go_roundw
                    case rel => exact ⟨k + 1, _, (k : Int), by omega, by go_num, rfl, HF.out, rfl⟩
                    case measure => simp [intOf]; omega
          · have HF := Lib.hid (HN.out.skip hx.out (by rw [HD.out, hst, hhas, hhas2]; rfl))
            clear hst hhas hhas2
            go_wp2_with fail
            go_roundw
            case rel => exact ⟨k + 1, _, z, by omega, by go_num, rfl, HF.out, rfl⟩
            case measure => simp [intOf]; omega
        · have HF := Lib.hid (HN.out.skip hx.out (by rw [HD.out, hst, hhas]; rfl))
          clear hst hhas
          go_wp2_with fail
          go_roundw
          case rel => exact ⟨k + 1, _, z, by omega, by go_num, rfl, HF.out, rfl⟩
          case measure => simp [intOf]; omega
      · have HF := Lib.hid (HN.out.skip hx.out (by rw [HD.out, hst]; rfl))
        go_wp2_with fail
        go_roundw
        case rel => exact ⟨k + 1, _, z, by omega, by go_num, rfl, HF.out, rfl⟩
        case measure => simp [intOf]; omega
    · obtain rfl : k = l.length := by omega
      have dk : decide ((l.length : Int) < (l.length : Int)) = false := by simp
      go_wp2_with fail
      go_ret
      exact ⟨z, rfl, HN.out, n, rfl⟩
end Go.Proofs.Ytfaklhdafpbkmaa
