/- Entries; bilgeref20.Fit: may a table be? -/
import Derived.Test.YtlhmhcidknadmaaDoorVGen
namespace Go.Proofs.YtlhmhcidknadmaaDoor
open Go.RowKit

structure En where
  pod : Pd
  phase : Int
abbrev En.cells (e : En) : Array Value := #[.string e.pod.id, .int .i64 e.pod.prio, .bool e.pod.crit, .int .i64 e.pod.q0, .int .i64 e.pod.q1, .int .i64 e.pod.q2, .int .i64 e.pod.l0, .int .i64 e.pod.l1, .int .i64 e.pod.l2, .string e.pod.image, .int .i64 e.pod.size, .int .i64 e.phase]
def encN : Enc En 12 := ⟨fun p => p.cells.toList, fun _ => rfl, fun p u hu => by simp at hu; rcases hu with h | h | h | h | h | h | h | h | h | h | h | h <;> subst h <;> rfl, by decide⟩
theorem Rds.en {w : World} {A : Option Addr} {l : List En} (h : Rds w encN A l) {i : Nat} (hi : i < l.length) : ∃ b off, A = some ⟨b, off, none⟩ ∧ b < w.heap.size ∧
    w.cell? ⟨b, off + i * 12, none⟩ = some (.string l[i].pod.id) ∧ w.cell? ⟨b, off + i * 12 + 1, none⟩ = some (.int .i64 l[i].pod.prio) ∧ w.cell? ⟨b, off + i * 12 + 2, none⟩ = some (.bool l[i].pod.crit) ∧
    w.cell? ⟨b, off + i * 12 + 3, none⟩ = some (.int .i64 l[i].pod.q0) ∧ w.cell? ⟨b, off + i * 12 + 4, none⟩ = some (.int .i64 l[i].pod.q1) ∧ w.cell? ⟨b, off + i * 12 + 5, none⟩ = some (.int .i64 l[i].pod.q2) ∧
    w.cell? ⟨b, off + i * 12 + 6, none⟩ = some (.int .i64 l[i].pod.l0) ∧ w.cell? ⟨b, off + i * 12 + 7, none⟩ = some (.int .i64 l[i].pod.l1) ∧ w.cell? ⟨b, off + i * 12 + 8, none⟩ = some (.int .i64 l[i].pod.l2) ∧
    w.cell? ⟨b, off + i * 12 + 9, none⟩ = some (.string l[i].pod.image) ∧ w.cell? ⟨b, off + i * 12 + 10, none⟩ = some (.int .i64 l[i].pod.size) ∧ w.cell? ⟨b, off + i * 12 + 11, none⟩ = some (.int .i64 l[i].phase) := by
  obtain ⟨b, off, e, hb, hc⟩ := h.at_ hi
  exact ⟨b, off, e, hb, by have := hc 0 (.string l[i].pod.id) rfl; simpa using this, hc 1 (.int .i64 l[i].pod.prio) rfl, hc 2 (.bool l[i].pod.crit) rfl, hc 3 (.int .i64 l[i].pod.q0) rfl, hc 4 (.int .i64 l[i].pod.q1) rfl, hc 5 (.int .i64 l[i].pod.q2) rfl, hc 6 (.int .i64 l[i].pod.l0) rfl, hc 7 (.int .i64 l[i].pod.l1) rfl, hc 8 (.int .i64 l[i].pod.l2) rfl, hc 9 (.string l[i].pod.image) rfl, hc 10 (.int .i64 l[i].pod.size) rfl, hc 11 (.int .i64 l[i].phase) rfl⟩
theorem Rds.enAt {w W : World} {b off : Nat} {l : List En} (h : Rds w encN (some ⟨b, off, none⟩) l) (hb : Below w.heap.size w W) {i : Nat} {x : En} (hx : l[i]? = some x) : W.cell? ⟨b, off + i * 12, none⟩ = some (.string x.pod.id) ∧ W.cell? ⟨b, off + i * 12 + 1, none⟩ = some (.int .i64 x.pod.prio) ∧ W.cell? ⟨b, off + i * 12 + 2, none⟩ = some (.bool x.pod.crit) ∧ W.cell? ⟨b, off + i * 12 + 3, none⟩ = some (.int .i64 x.pod.q0) ∧ W.cell? ⟨b, off + i * 12 + 4, none⟩ = some (.int .i64 x.pod.q1) ∧ W.cell? ⟨b, off + i * 12 + 5, none⟩ = some (.int .i64 x.pod.q2) ∧ W.cell? ⟨b, off + i * 12 + 6, none⟩ = some (.int .i64 x.pod.l0) ∧ W.cell? ⟨b, off + i * 12 + 7, none⟩ = some (.int .i64 x.pod.l1) ∧ W.cell? ⟨b, off + i * 12 + 8, none⟩ = some (.int .i64 x.pod.l2) ∧ W.cell? ⟨b, off + i * 12 + 9, none⟩ = some (.string x.pod.image) ∧ W.cell? ⟨b, off + i * 12 + 10, none⟩ = some (.int .i64 x.pod.size) ∧ W.cell? ⟨b, off + i * 12 + 11, none⟩ = some (.int .i64 x.phase) := by
  obtain ⟨hi, rfl⟩ := List.getElem?_eq_some_iff.1 hx
  obtain ⟨b', off', hA, _, hc⟩ := (h.below hb).en hi
  injection hA with hA
  injection hA with h1 h2
  subst h1 h2
  exact hc
theorem toList_ne {a b : ByteArray} (h : (a.toList == b.toList) = false) : a ≠ b := toList_neV h
theorem smallV_any {p : Pd} {v : Bool} (hv : p.small = v) (w : World) :
    Calls Tryd.prog 11 #[.agg p.cells] w fun e w' => e = .returned (.bool v) ∧ Below w.heap.size w w' := refSmallV hv w
theorem rightV_any {p : Pd} {v : Bool} (hv : p.right = v) (w : World) (hp : p.Wf) :
    Calls Tryd.prog 20 #[.agg p.cells] w fun e w' => e = .returned (.bool v) ∧ Below w.heap.size w w' := refRightV hv w hp
structure OkEn (l : List En) (i : Nat) (hi : i < l.length) : Prop where
  s : l[i].pod.small = true
  r : l[i].pod.right = true
  lo : 1 ≤ l[i].phase
  hi : l[i].phase ≤ 3
  d : ∀ j (hj : j < i), l[j].pod.id ≠ l[i].pod.id
def OkEnTo (l : List En) (k : Nat) : Prop := ∀ i (hi : i < l.length), i < k → OkEn l i hi
structure FitE (l : List En) : Prop where
  len : l.length ≤ 64
  ok : OkEnTo l l.length
theorem OkEnTo.snoc {l : List En} {k : Nat} (hk : k < l.length) (h : OkEnTo l k) (a : OkEn l k hk) : OkEnTo l (k + 1) := fun i hi h2 => by
  rcases Nat.lt_or_ge i k with h3 | h3
  · exact h i hi h3
  · obtain rfl : i = k := by omega
    exact a
theorem FitE.no {l : List En} {v : Bool} (hv : v = true ↔ FitE l) (h : ¬ FitE l) : v = false := by
  cases v
  · rfl
  · exact absurd (hv.1 rfl) h
theorem Rds.enB {w W : World} {b off : Nat} {l : List En} (h : Rds w encN (some ⟨b, off, none⟩) l) (hb : Below w.heap.size w W) {i : Nat} (hi : i < l.length) : W.cell? ⟨b, off + i * 12, none⟩ = some (.string l[i].pod.id) :=
  (h.enAt hb (List.getElem?_eq_getElem hi)).1
def NotIn (l : List En) (s : ByteArray) (k : Nat) : Prop := ∀ j (hj : j < l.length), j < k → l[j].pod.id ≠ s
theorem NotIn.snoc {l : List En} {s : ByteArray} {k : Nat} (hk : k < l.length) (h : NotIn l s k) (he : (l[k].pod.id.toList == s.toList) = false) : NotIn l s (k + 1) := fun j hj h2 => by
  rcases Nat.lt_or_ge j k with h3 | h3
  · exact h j hj h3
  · obtain rfl : j = k := by omega
    exact toList_ne he
set_option maxRecDepth 100000 in
set_option maxHeartbeats 4000000 in
theorem fit20V_any {l : List En} {v : Bool} (hv : v = true ↔ FitE l) (A : Option Addr) (c : Nat) (w : World) (hr : Rds w encN A l) (hw : ∀ x ∈ l, x.pod.Wf ∧ I64 x.phase) (hm : l.length ≤ 9223372036854775807) :
    Calls Tryd.prog 10 #[.slice A l.length c] w fun e w' => e = .returned (.bool v) ∧ Below w.heap.size w w' := by
  have HR := Lib.hid hr
  have HV := Lib.hid hv
  have HW := Lib.hid hw
  clear hr hv hw
  by_cases hl : l.length ≤ 64
  rotate_left
  · have HN : Hid (v = false) := FitE.no HV.out fun h => hl h.len
    have dl : decide ((64 : Int) < (l.length : Int)) = true := decide_eq_true (by omega)
    have dln : decide (64 < l.length) = true := decide_eq_true (by omega)
    clear hl
    go_enter Tryd.func10, Tryd.ntmps10
    go_wp2_with fail
    go_ret
    exact ⟨ret_bool HN.out.symm, Below.refl _ _⟩
  · have dl : decide ((64 : Int) < (l.length : Int)) = false := decide_eq_false (by omega)
    have dln : decide (64 < l.length) = false := decide_eq_false (by omega)
    go_enter Tryd.func10, Tryd.ntmps10
    go_wp2_with fail
    go_loopw [3] (fun ii wr => ∃ i : Nat, i ≤ l.length ∧ ii = .int .i64 i ∧ OkEnTo l i ∧ Below w.heap.size w wr) (fun ii _ => l.length - (intOf ii).toNat)
    case atStart => exact ⟨0, by omega, rfl, fun _ _ h => by omega, Below.refl _ _⟩
    case round =>
      obtain ⟨i, hi, rfl, hok, hB⟩ := hrel
      have HOK := Lib.hid hok
      have HB := Lib.hid hB
      clear hok hB
      by_cases hlt : i < l.length
      · obtain ⟨b, off, hA, _⟩ := HR.out.en hlt
        obtain rfl : A = some ⟨b, off, none⟩ := hA
        have dk : decide ((i : Int) < (l.length : Int)) = true := decide_eq_true (by omega)
        have dk2 : (i : Int) < (l.length : Int) := by omega
        have HXI := Lib.hid (List.getElem?_eq_getElem hlt)
        have HWX := Lib.hid (HW.out _ (List.getElem_mem hlt))
        have HNo := Lib.hid (show ¬ OkEn l i hlt → v = false from fun h => FitE.no HV.out fun hf => h (hf.ok i hlt hlt))
        have HYes := Lib.hid (fun a : OkEn l i hlt => HOK.out.snoc hlt a)
        have HMk := Lib.hid (show l[i].pod.small = true → l[i].pod.right = true → 1 ≤ l[i].phase → l[i].phase ≤ 3 → NotIn l l[i].pod.id i → OkEn l i hlt from fun a1 a2 a3 a4 a5 => ⟨a1, a2, a3, a4, fun j hj => a5 j (by omega) hj⟩)
        have HUn := Lib.hid (show OkEn l i hlt → l[i].pod.small = true ∧ l[i].pod.right = true ∧ 1 ≤ l[i].phase ∧ l[i].phase ≤ 3 ∧ ∀ j (hj : j < i), l[j].pod.id ≠ l[i].pod.id from fun h => ⟨h.s, h.r, h.lo, h.hi, h.d⟩)
        have HI0 := Lib.hid (show ∀ (j : Nat) (hj : j < l.length), (l[j].pod.id.toList == l[i].pod.id.toList) = true → j < i → ¬ OkEn l i hlt from fun j hj he hji h => h.d j hji (toList_inj he))
        generalize l[i] = x at *
        obtain ⟨c0, c1, c2, c3, c4, c5, c6, c7, c8, c9, c10, c11⟩ := HR.out.enAt HB.out HXI.out
        cases hs : x.pod.small
        · have HN := Lib.hid (HNo.out fun h => by have := (HUn.out h).1; rw [hs] at this; cases this)
          have HS := Lib.hid hs
          clear hs
          go_wp2_with fail
          refine (smallV_any HS.out _).mono ?_; rintro e w1 ⟨rfl, hb⟩
          have HB := Lib.hid (HB.out.trans (hb.mono HB.out.size))
          clear hb c0 c1 c2 c3 c4 c5 c6 c7 c8 c9 c10 c11
          go_wp2_with fail
          go_ret
          exact ⟨ret_bool HN.out.symm, HB.out⟩
        · have HS := Lib.hid hs
          clear hs
          go_wp2_with fail
          refine (smallV_any HS.out _).mono ?_; rintro e w1 ⟨rfl, hb⟩
          have HB := Lib.hid (HB.out.trans (hb.mono HB.out.size))
          clear hb c0 c1 c2 c3 c4 c5 c6 c7 c8 c9 c10 c11
          obtain ⟨c0, c1, c2, c3, c4, c5, c6, c7, c8, c9, c10, c11⟩ := HR.out.enAt HB.out HXI.out
          cases hrt : x.pod.right
          · have HN := Lib.hid (HNo.out fun h => by have := (HUn.out h).2.1; rw [hrt] at this; cases this)
            have HRT := Lib.hid hrt
            clear hrt
            go_wp2_with fail
            refine (rightV_any HRT.out _ HWX.out.1).mono ?_; rintro e w1 ⟨rfl, hb⟩
            have HB := Lib.hid (HB.out.trans (hb.mono HB.out.size))
            clear hb c0 c1 c2 c3 c4 c5 c6 c7 c8 c9 c10 c11
            go_wp2_with fail
            go_ret
            exact ⟨ret_bool HN.out.symm, HB.out⟩
          · have HRT := Lib.hid hrt
            clear hrt
            go_wp2_with fail
            refine (rightV_any HRT.out _ HWX.out.1).mono ?_; rintro e w1 ⟨rfl, hb⟩
            have HB := Lib.hid (HB.out.trans (hb.mono HB.out.size))
            clear hb c0 c1 c2 c3 c4 c5 c6 c7 c8 c9 c10 c11
            obtain ⟨c0, c1, c2, c3, c4, c5, c6, c7, c8, c9, c10, c11⟩ := HR.out.enAt HB.out HXI.out
            by_cases hp1 : x.phase < 1
            · have HN := Lib.hid (HNo.out fun h => by have := (HUn.out h).2.2.1; omega)
              have d1 : decide (x.phase < 1) = true := decide_eq_true hp1
              clear hp1
              go_wp2_with fail
              go_ret
              exact ⟨ret_bool HN.out.symm, HB.out⟩
            · have d1 : decide (x.phase < 1) = false := decide_eq_false hp1
              by_cases hp3 : 3 < x.phase
              · have HN := Lib.hid (HNo.out fun h => by have := (HUn.out h).2.2.2.1; omega)
                have d3 : decide (3 < x.phase) = true := decide_eq_true hp3
                clear hp1 hp3
                go_wp2_with fail
                go_ret
                exact ⟨ret_bool HN.out.symm, HB.out⟩
              · have d3 : decide (3 < x.phase) = false := decide_eq_false hp3
                have HMk2 := Lib.hid (fun h => HYes.out (HMk.out HS.out HRT.out (by omega) (by omega) h))
                clear hp1 hp3
                go_wp2_with fail
                obtain ⟨wo, hwo⟩ : ∃ wo : World, wo = w1 := ⟨_, rfl⟩
                subst hwo
                clear c0 c1 c2 c3 c4 c5 c6 c7 c8 c9 c10 c11
                go_loopw [4] (fun kk wq => ∃ j : Nat, j ≤ i ∧ kk = .int .i64 j ∧ NotIn l x.pod.id j ∧ Below w.heap.size w wq) (fun kk _ => i - (intOf kk).toNat)
                case atStart => exact ⟨0, by omega, rfl, fun _ _ h => by omega, HB.out⟩
                case round =>
                  clear HB
                  obtain ⟨j, hj, rfl, hni, hB⟩ := hrel
                  have HNI := Lib.hid hni
                  have HB := Lib.hid hB
                  clear hni hB
                  by_cases hji : j < i
                  · have hjl : j < l.length := by omega
                    have dj : decide ((j : Int) < (i : Int)) = true := decide_eq_true (by omega)
                    have djn : decide (j < i) = true := decide_eq_true hji
                    have dj2 : (j : Int) < (l.length : Int) := by omega
                    have cj := HR.out.enB HB.out hjl
                    obtain ⟨ci, _⟩ := HR.out.enAt HB.out HXI.out
                    have HSn := Lib.hid (fun (h : (l[j].pod.id.toList == x.pod.id.toList) = false) => HNI.out.snoc hjl h)
                    have HEq := Lib.hid (fun (h : (l[j].pod.id.toList == x.pod.id.toList) = true) => HNo.out (HI0.out j hjl h hji))
                    generalize l[j] = y at *
                    cases he : (y.pod.id.toList == x.pod.id.toList)
                    · have HN := Lib.hid (HSn.out he)
                      go_wp2_with fail
                      go_quiet (fail)
                      go_wp2_with fail
                      go_roundw
                      case rel => exact ⟨j + 1, by omega, by go_num, HN.out, HB.out.trans ⟨rfl, rfl, rfl, Nat.le_refl _, fun _ _ => rfl⟩⟩
                      case measure => simp [intOf]; omega
                    · have HN := Lib.hid (HEq.out he)
                      go_wp2_with fail
                      go_quiet (fail)
                      go_wp2_with fail
                      go_ret
                      exact ⟨ret_bool HN.out.symm, HB.out.trans ⟨rfl, rfl, rfl, Nat.le_refl _, fun _ _ => rfl⟩⟩
                  · obtain rfl : j = i := by omega
                    have HN := Lib.hid (HMk2.out HNI.out)
                    have dj : decide ((j : Int) < (j : Int)) = false := by simp
                    go_wp2_with fail
                    go_roundw
                    case rel => exact ⟨j + 1, by omega, by go_num, HN.out, HB.out⟩
                    case measure => simp [intOf]; omega
      · obtain rfl : i = l.length := by omega
        have dk : decide ((l.length : Int) < (l.length : Int)) = false := by simp
        have HN : Hid (v = true) := HV.out.2 ⟨hl, HOK.out⟩
        go_wp2_with fail
        go_ret
        exact ⟨ret_bool HN.out.symm, HB.out⟩
end Go.Proofs.YtlhmhcidknadmaaDoor
