/- bilgeref13.Class, bilgeref23.Bars, bilgeref23.Decide: the document's verdict. -/
import Derived.Test.YtlhmhcidknadmaaGreatDoorADecide
import Derived.Test.YtlhmhcidknadmaaGreatDoorALaw
import Derived.Test.YtlhmhcidknadmaaGreatDoorASame
import Derived.Test.YtlhmhcidknadmaaGreatDoorVRefChoose
namespace Go.Proofs.YtlhmhcidknadmaaGreatDoor
open Go.RowKit

def noneTo (p : Pd) : Nat → Bool
  | 0 => true
  | 1 => (p.q0 == 0) && (p.l0 == 0)
  | 2 => ((p.q0 == 0) && (p.l0 == 0)) && ((p.q1 == 0) && (p.l1 == 0))
  | _ => p.none3
theorem noneTo_1 (p : Pd) : noneTo p 1 = ((noneTo p 0 && (p.q0 == 0)) && (p.l0 == 0)) := by simp [noneTo]
theorem noneTo_2 (p : Pd) : noneTo p 2 = ((noneTo p 1 && (p.q1 == 0)) && (p.l1 == 0)) := by simp [noneTo, Bool.and_assoc]
theorem noneTo_3 (p : Pd) : noneTo p 3 = ((noneTo p 2 && (p.q2 == 0)) && (p.l2 == 0)) := by
  unfold noneTo Pd.none3
  cases (p.q0 == 0) <;> cases (p.q1 == 0) <;> cases (p.q2 == 0) <;> cases (p.l0 == 0) <;> cases (p.l1 == 0) <;> cases (p.l2 == 0) <;> rfl
set_option maxRecDepth 100000 in
set_option maxHeartbeats 4000000 in
theorem class13_any (p : Pd) (w : World) : Calls Tryz.prog 25 #[.agg p.cells] w (GivesK p w) := by
  have hbx := Blk.new w 29 p.cells
  have HB := Lib.hid ((Below.refl w.heap.size w).alloc (Nat.le_refl _) (.cells p.cells 29))
  have HBX := Lib.hid hbx
  clear hbx
  go_enter Tryz.func25, Tryz.ntmps25
  go_wp2_with fail
  go_loopw [3, 4] (fun nn ii wr => ∃ i : Nat, i ≤ 3 ∧ ii = .int .i64 i ∧ nn = .bool (noneTo p i) ∧ (Below w.heap.size w wr ∧ Blk wr w.heap.size 29 #[.string p.id, .int .i64 p.prio, .bool p.crit, .int .i64 p.q0, .int .i64 p.q1, .int .i64 p.q2, .int .i64 p.l0, .int .i64 p.l1, .int .i64 p.l2, .string p.image, .int .i64 p.size])) (fun _ ii _ => 3 - (intOf ii).toNat)
  case atStart => exact ⟨0, by omega, rfl, rfl, HB.out, HBX.out⟩
  case round =>
    clear HB HBX
    obtain ⟨i, hi, rfl, rfl, hbl⟩ := hrel
    have HP := Lib.hid hbl
    clear hbl
    obtain rfl | rfl | rfl | rfl : i = 0 ∨ i = 1 ∨ i = 2 ∨ i = 3 := by omega
    · cases hn : noneTo p 0
      · have HNB : Hid ((.bool false : Value) = .bool (noneTo p 1)) := by show _ = _; rw [noneTo_1, hn]; rfl
        clear hn
        have cp := HP.out.2.cell
        go_wp2_with fail
        go_roundw
        case rel => exact ⟨1, by omega, by rfl, HNB.out, HP.out⟩
        case measure => simp [intOf]
      · by_cases h1 : p.q0 = 0
        · by_cases h2 : p.l0 = 0
          · have HNB : Hid ((.bool true : Value) = .bool (noneTo p 1)) := by show _ = _; rw [noneTo_1, hn, h1, h2]; rfl
            have e1 : (p.q0 == 0) = true := by simpa using h1
            have e2 : (p.l0 == 0) = true := by simpa using h2
            clear h1 h2 hn
            have cp := HP.out.2.cell
            go_wp2_with fail
            go_roundw
            case rel => exact ⟨1, by omega, by rfl, HNB.out, HP.out⟩
            case measure => simp [intOf]
          · have e1 : (p.q0 == 0) = true := by simpa using h1
            have e2 : (p.l0 == 0) = false := by simpa using h2
            have HNB : Hid ((.bool false : Value) = .bool (noneTo p 1)) := by show _ = _; rw [noneTo_1, hn, e1, e2]; rfl
            clear h1 h2 hn
            have cp := HP.out.2.cell
            go_wp2_with fail
            go_roundw
            case rel => exact ⟨1, by omega, by rfl, HNB.out, HP.out⟩
            case measure => simp [intOf]
        · have e1 : (p.q0 == 0) = false := by simpa using h1
          have HNB : Hid ((.bool false : Value) = .bool (noneTo p 1)) := by show _ = _; rw [noneTo_1, hn, e1]; rfl
          clear h1 hn
          have cp := HP.out.2.cell
          go_wp2_with fail
          go_roundw
          case rel => exact ⟨1, by omega, by rfl, HNB.out, HP.out⟩
          case measure => simp [intOf]
    · cases hn : noneTo p 1
      · have HNB : Hid ((.bool false : Value) = .bool (noneTo p 2)) := by show _ = _; rw [noneTo_2, hn]; rfl
        clear hn
        have cp := HP.out.2.cell
        go_wp2_with fail
        go_roundw
        case rel => exact ⟨2, by omega, by rfl, HNB.out, HP.out⟩
        case measure => simp [intOf]
      · by_cases h1 : p.q1 = 0
        · by_cases h2 : p.l1 = 0
          · have HNB : Hid ((.bool true : Value) = .bool (noneTo p 2)) := by show _ = _; rw [noneTo_2, hn, h1, h2]; rfl
            have e1 : (p.q1 == 0) = true := by simpa using h1
            have e2 : (p.l1 == 0) = true := by simpa using h2
            clear h1 h2 hn
            have cp := HP.out.2.cell
            go_wp2_with fail
            go_roundw
            case rel => exact ⟨2, by omega, by rfl, HNB.out, HP.out⟩
            case measure => simp [intOf]
          · have e1 : (p.q1 == 0) = true := by simpa using h1
            have e2 : (p.l1 == 0) = false := by simpa using h2
            have HNB : Hid ((.bool false : Value) = .bool (noneTo p 2)) := by show _ = _; rw [noneTo_2, hn, e1, e2]; rfl
            clear h1 h2 hn
            have cp := HP.out.2.cell
            go_wp2_with fail
            go_roundw
            case rel => exact ⟨2, by omega, by rfl, HNB.out, HP.out⟩
            case measure => simp [intOf]
        · have e1 : (p.q1 == 0) = false := by simpa using h1
          have HNB : Hid ((.bool false : Value) = .bool (noneTo p 2)) := by show _ = _; rw [noneTo_2, hn, e1]; rfl
          clear h1 hn
          have cp := HP.out.2.cell
          go_wp2_with fail
          go_roundw
          case rel => exact ⟨2, by omega, by rfl, HNB.out, HP.out⟩
          case measure => simp [intOf]
    · cases hn : noneTo p 2
      · have HNB : Hid ((.bool false : Value) = .bool (noneTo p 3)) := by show _ = _; rw [noneTo_3, hn]; rfl
        clear hn
        have cp := HP.out.2.cell
        go_wp2_with fail
        go_roundw
        case rel => exact ⟨3, by omega, by rfl, HNB.out, HP.out⟩
        case measure => simp [intOf]
      · by_cases h1 : p.q2 = 0
        · by_cases h2 : p.l2 = 0
          · have HNB : Hid ((.bool true : Value) = .bool (noneTo p 3)) := by show _ = _; rw [noneTo_3, hn, h1, h2]; rfl
            have e1 : (p.q2 == 0) = true := by simpa using h1
            have e2 : (p.l2 == 0) = true := by simpa using h2
            clear h1 h2 hn
            have cp := HP.out.2.cell
            go_wp2_with fail
            go_roundw
            case rel => exact ⟨3, by omega, by rfl, HNB.out, HP.out⟩
            case measure => simp [intOf]
          · have e1 : (p.q2 == 0) = true := by simpa using h1
            have e2 : (p.l2 == 0) = false := by simpa using h2
            have HNB : Hid ((.bool false : Value) = .bool (noneTo p 3)) := by show _ = _; rw [noneTo_3, hn, e1, e2]; rfl
            clear h1 h2 hn
            have cp := HP.out.2.cell
            go_wp2_with fail
            go_roundw
            case rel => exact ⟨3, by omega, by rfl, HNB.out, HP.out⟩
            case measure => simp [intOf]
        · have e1 : (p.q2 == 0) = false := by simpa using h1
          have HNB : Hid ((.bool false : Value) = .bool (noneTo p 3)) := by show _ = _; rw [noneTo_3, hn, e1]; rfl
          clear h1 hn
          have cp := HP.out.2.cell
          go_wp2_with fail
          go_roundw
          case rel => exact ⟨3, by omega, by rfl, HNB.out, HP.out⟩
          case measure => simp [intOf]
    · obtain ⟨v, hv⟩ : ∃ v, p.none3 = v := ⟨_, rfl⟩
      have HN := Lib.hid hv
      rw [show noneTo p 3 = v from hv]
      clear hv
      cases v
      rotate_left
      · have cp := HP.out.2.cell
        go_wp2_with fail
        go_ret
        exact ⟨3, rfl, by rw [HN.out]; rfl, HP.out.1⟩
      · by_cases h1 : 0 < p.l0
        · have d1 : decide (0 < p.l0) = true := decide_eq_true h1
          clear h1
          by_cases h2 : p.l0 = p.q0
          · have d2 : (p.l0 == p.q0) = true := by simpa using h2
            clear h2
            by_cases h3 : 0 < p.l1
            · have d3 : decide (0 < p.l1) = true := decide_eq_true h3
              clear h3
              by_cases h4 : p.l1 = p.q1
              · have d4 : (p.l1 == p.q1) = true := by simpa using h4
                clear h4
                have cp := HP.out.2.cell
                go_wp2_with fail
                go_ret
                exact ⟨1, rfl, by rw [HN.out]; rfl, HP.out.1⟩
              · have d4 : (p.l1 == p.q1) = false := by simpa using h4
                clear h4
                have cp := HP.out.2.cell
                go_wp2_with fail
                go_ret
                exact ⟨2, rfl, by rw [HN.out]; rfl, HP.out.1⟩
            · have d3 : decide (0 < p.l1) = false := decide_eq_false h3
              clear h3
              have cp := HP.out.2.cell
              go_wp2_with fail
              go_ret
              exact ⟨2, rfl, by rw [HN.out]; rfl, HP.out.1⟩
          · have d2 : (p.l0 == p.q0) = false := by simpa using h2
            clear h2
            have cp := HP.out.2.cell
            go_wp2_with fail
            go_ret
            exact ⟨2, rfl, by rw [HN.out]; rfl, HP.out.1⟩
        · have d1 : decide (0 < p.l0) = false := decide_eq_false h1
          clear h1
          have cp := HP.out.2.cell
          go_wp2_with fail
          go_ret
          exact ⟨2, rfl, by rw [HN.out]; rfl, HP.out.1⟩
/-- does condition k bar? -/
def barK (p : Pd) : Nat → Bool
  | 0 => !p.crit && p.none3
  | _ => !p.crit
def GivesBK (v : Bool) (w : World) (e : Ending) (w' : World) : Prop := e = .returned (.bool v) ∧ Below w.heap.size w w'
set_option maxRecDepth 100000 in
set_option maxHeartbeats 2000000 in
theorem bars0_any {p : Pd} {v : Bool} (hv : barK p 0 = v) (w : World) : Calls Tryz.prog 13 #[.int .i64 0, .agg p.cells] w (GivesBK v w) := by
  subst hv
  have HBX := Lib.hid (Blk.new w 29 #[.string p.id, .int .i64 p.prio, .bool p.crit, .int .i64 p.q0, .int .i64 p.q1, .int .i64 p.q2, .int .i64 p.l0, .int .i64 p.l1, .int .i64 p.l2, .string p.image, .int .i64 p.size])
  have HB := Lib.hid ((Below.refl w.heap.size w).alloc (Nat.le_refl _) (.cells #[.string p.id, .int .i64 p.prio, .bool p.crit, .int .i64 p.q0, .int .i64 p.q1, .int .i64 p.q2, .int .i64 p.l0, .int .i64 p.l1, .int .i64 p.l2, .string p.image, .int .i64 p.size] 29))
  cases hc : p.crit
  rotate_left
  · have HV : Hid (barK p 0 = false) := by show _ = _; unfold barK; rw [hc]; rfl
    rw [HV.out]
    go_enter Tryz.func13, Tryz.ntmps13
    go_wp2_with fail
    go_ret
    exact ⟨rfl, HB.out⟩
  · obtain ⟨v, hv⟩ : ∃ v, p.none3 = v := ⟨_, rfl⟩
    have HV : Hid (barK p 0 = v) := by show _ = _; unfold barK; rw [hc, hv]; rfl
    rw [HV.out]
    have HC := Lib.hid hc
    have HN := Lib.hid hv
    go_enter Tryz.func13, Tryz.ntmps13
    clear hv
    have cp := HBX.out.cell
    go_wp2_with fail
    clear cp
    refine (class13_any ⟨p.id, p.prio, false, p.q0, p.q1, p.q2, p.l0, p.l1, p.l2, p.image, p.size⟩ _).mono ?_; rintro e w1 ⟨k, rfl, hk0, hb⟩
    have hk : (k == 3) = p.none3 := hk0
    clear hk0
    have HB := Lib.hid (HB.out.trans (hb.mono HB.out.size))
    rw [HN.out] at hk
    clear hb
    cases v
    · go_wp2_with fail
      go_ret
      exact ⟨rfl, HB.out⟩
    · go_wp2_with fail
      go_ret
      exact ⟨rfl, HB.out⟩
set_option maxRecDepth 100000 in
set_option maxHeartbeats 2000000 in
theorem bars1_any {p : Pd} {v : Bool} (hv : barK p 1 = v) (w : World) : Calls Tryz.prog 13 #[.int .i64 1, .agg p.cells] w (GivesBK v w) := by
  subst hv
  have HBX := Lib.hid (Blk.new w 29 #[.string p.id, .int .i64 p.prio, .bool p.crit, .int .i64 p.q0, .int .i64 p.q1, .int .i64 p.q2, .int .i64 p.l0, .int .i64 p.l1, .int .i64 p.l2, .string p.image, .int .i64 p.size])
  have HB := Lib.hid ((Below.refl w.heap.size w).alloc (Nat.le_refl _) (.cells #[.string p.id, .int .i64 p.prio, .bool p.crit, .int .i64 p.q0, .int .i64 p.q1, .int .i64 p.q2, .int .i64 p.l0, .int .i64 p.l1, .int .i64 p.l2, .string p.image, .int .i64 p.size] 29))
  cases hc : p.crit
  rotate_left
  · have HV : Hid (barK p 1 = false) := by show _ = _; unfold barK; rw [hc]; rfl
    rw [HV.out]
    go_enter Tryz.func13, Tryz.ntmps13
    go_wp2_with fail
    go_ret
    exact ⟨rfl, HB.out⟩
  · have HV : Hid (barK p 1 = true) := by show _ = _; unfold barK; rw [hc]; rfl
    rw [HV.out]
    have HC := Lib.hid hc
    go_enter Tryz.func13, Tryz.ntmps13
    go_wp2_with fail
    go_ret
    exact ⟨rfl, HB.out⟩
set_option maxRecDepth 100000 in
set_option maxHeartbeats 2000000 in
theorem bars2_any {p : Pd} {v : Bool} (hv : barK p 2 = v) (w : World) : Calls Tryz.prog 13 #[.int .i64 2, .agg p.cells] w (GivesBK v w) := by
  subst hv
  have HBX := Lib.hid (Blk.new w 29 #[.string p.id, .int .i64 p.prio, .bool p.crit, .int .i64 p.q0, .int .i64 p.q1, .int .i64 p.q2, .int .i64 p.l0, .int .i64 p.l1, .int .i64 p.l2, .string p.image, .int .i64 p.size])
  have HB := Lib.hid ((Below.refl w.heap.size w).alloc (Nat.le_refl _) (.cells #[.string p.id, .int .i64 p.prio, .bool p.crit, .int .i64 p.q0, .int .i64 p.q1, .int .i64 p.q2, .int .i64 p.l0, .int .i64 p.l1, .int .i64 p.l2, .string p.image, .int .i64 p.size] 29))
  cases hc : p.crit
  rotate_left
  · have HV : Hid (barK p 2 = false) := by show _ = _; unfold barK; rw [hc]; rfl
    rw [HV.out]
    go_enter Tryz.func13, Tryz.ntmps13
    go_wp2_with fail
    go_ret
    exact ⟨rfl, HB.out⟩
  · have HV : Hid (barK p 2 = true) := by show _ = _; unfold barK; rw [hc]; rfl
    rw [HV.out]
    have HC := Lib.hid hc
    go_enter Tryz.func13, Tryz.ntmps13
    go_wp2_with fail
    go_ret
    exact ⟨rfl, HB.out⟩
/-- of the first k conditions none that is on bars -/
def NotOn (a b c : Bool) (p : Pd) (k : Nat) : Prop := (0 < k → (a && barK p 0) = false) ∧ (1 < k → (b && barK p 1) = false) ∧ (2 < k → (c && barK p 2) = false)
theorem NotOn.off0 {b c : Bool} {p : Pd} (_ : NotOn false b c p 0) : NotOn false b c p 1 := ⟨fun _ => rfl, fun h => by omega, fun h => by omega⟩
theorem NotOn.off1 {a c : Bool} {p : Pd} (h : NotOn a false c p 1) : NotOn a false c p 2 := ⟨fun _ => h.1 (by omega), fun _ => rfl, fun h => by omega⟩
theorem NotOn.off2 {a b : Bool} {p : Pd} (h : NotOn a b false p 2) : NotOn a b false p 3 := ⟨fun _ => h.1 (by omega), fun _ => h.2.1 (by omega), fun _ => rfl⟩
theorem NotOn.no0 {b c : Bool} {p : Pd} (_ : NotOn true b c p 0) (e : barK p 0 = false) : NotOn true b c p 1 := ⟨fun _ => by rw [e]; rfl, fun h => by omega, fun h => by omega⟩
theorem NotOn.no1 {a c : Bool} {p : Pd} (h : NotOn a true c p 1) (e : barK p 1 = false) : NotOn a true c p 2 := ⟨fun _ => h.1 (by omega), fun _ => by rw [e]; rfl, fun h => by omega⟩
theorem NotOn.no2 {a b : Bool} {p : Pd} (h : NotOn a b true p 2) (e : barK p 2 = false) : NotOn a b true p 3 := ⟨fun _ => h.1 (by omega), fun _ => h.2.1 (by omega), fun _ => by rw [e]; rfl⟩
theorem NotOn.yes0 {b c : Bool} {p : Pd} (_ : NotOn true b c p 0) (e : barK p 0 = true) : barD true b c p = (0, true) := by
  unfold barK at e
  unfold barD
  cases hc : p.crit
  · rw [hc] at e
    rw [if_neg (by simp), if_pos (by simpa using e)]
  · rw [hc] at e; simp at e
theorem NotOn.yes1 {a c : Bool} {p : Pd} (h : NotOn a true c p 1) (e : barK p 1 = true) : barD a true c p = (1, true) := by
  have h0 := h.1 (by omega)
  unfold barK at e h0
  unfold barD
  cases hc : p.crit
  · rw [hc] at e h0
    rw [if_neg (by simp), if_neg (by simpa using h0), if_pos rfl]
  · rw [hc] at e; simp at e
theorem NotOn.yes2 {a b : Bool} {p : Pd} (h : NotOn a b true p 2) (e : barK p 2 = true) : barD a b true p = (2, true) := by
  have h0 := h.1 (by omega)
  have h1 := h.2.1 (by omega)
  unfold barK at e h0 h1
  unfold barD
  cases hc : p.crit
  · rw [hc] at e h0 h1
    rw [if_neg (by simp), if_neg (by simpa using h0), if_neg (by simpa using h1), if_pos rfl]
  · rw [hc] at e; simp at e
theorem NotOn.none_ {a b c : Bool} {p : Pd} (h : NotOn a b c p 3) : (barD a b c p).2 = false := by
  have h0 := h.1 (by omega)
  have h1 := h.2.1 (by omega)
  have h2 := h.2.2 (by omega)
  unfold barK at h0 h1 h2
  unfold barD
  cases hc : p.crit
  · rw [hc] at h0 h1 h2
    rw [if_neg (by simp), if_neg (by simpa using h0), if_neg (by simpa using h1), if_neg (by simpa using h2)]
  · simp
theorem VerD.wrong {room : S3} {p : Pd} {l : List En} {a b c : Bool} {k s e : Int} {O : List ByteArray} (h : VerD room p l a b c k s O e) (h1 : p.right = false) : k = 0 ∧ s = 0 ∧ O = [] ∧ e = 1 := by
  rcases h with ⟨_, h2, h3, h4, h5⟩ | ⟨h2, _⟩ | ⟨h2, _⟩ | ⟨h2, _⟩ | ⟨h2, _⟩
  · exact ⟨h2, h3, h4, h5⟩
  all_goals (rw [h1] at h2; cases h2)
theorem VerD.twice {room : S3} {p : Pd} {l : List En} {a b c : Bool} {k s e : Int} {O : List ByteArray} (h : VerD room p l a b c k s O e) (h0 : p.right = true) (h1 : hasE l p.id = true) : k = 0 ∧ s = 0 ∧ O = [] ∧ e = 5 := by
  rcases h with ⟨h2, _⟩ | ⟨_, _, h2, h3, h4, h5⟩ | ⟨_, h2, _⟩ | ⟨_, h2, _⟩ | ⟨_, h2, _⟩
  · rw [h0] at h2; cases h2
  · exact ⟨h2, h3, h4, h5⟩
  all_goals (rw [h1] at h2; cases h2)
theorem VerD.full {room : S3} {p : Pd} {l : List En} {a b c : Bool} {k s e : Int} {O : List ByteArray} (h : VerD room p l a b c k s O e) (h0 : p.right = true) (h1 : hasE l p.id = false) (hl : 64 ≤ l.length) : k = 0 ∧ s = 0 ∧ O = [] ∧ e = 6 := by
  rcases h with ⟨h2, _⟩ | ⟨_, h2, _⟩ | ⟨_, _, _, h2, h3, h4, h5⟩ | ⟨_, _, h2, _⟩ | ⟨_, _, h2, _⟩
  · rw [h0] at h2; cases h2
  · rw [h1] at h2; cases h2
  · exact ⟨h2, h3, h4, h5⟩
  all_goals omega
theorem VerD.barred {room : S3} {p : Pd} {l : List En} {a b c : Bool} {k s e s0 : Int} {O : List ByteArray} (h : VerD room p l a b c k s O e) (h0 : p.right = true) (h1 : hasE l p.id = false) (hl : l.length < 64) (hb : barD a b c p = (s0, true)) : k = 3 ∧ s = s0 ∧ O = [] ∧ e = 0 := by
  rcases h with ⟨h2, _⟩ | ⟨_, h2, _⟩ | ⟨_, _, h2, _⟩ | ⟨_, _, _, _, h2, h3, h4, h5⟩ | ⟨_, _, _, h2, _⟩
  · rw [h0] at h2; cases h2
  · rw [h1] at h2; cases h2
  · omega
  · exact ⟨h2, by rw [h3, hb], h4, h5⟩
  · rw [hb] at h2; cases h2
theorem VerD.who {room : S3} {p : Pd} {l : List En} {a b c : Bool} {k s e : Int} {O : List ByteArray} (h : VerD room p l a b c k s O e) (h0 : p.right = true) (h1 : hasE l p.id = false) (hl : l.length < 64) (hb : (barD a b c p).2 = false) : s = 0 ∧ e = 0 ∧ ∃ bb, WhoD room p (podsD l) O bb ∧ k = if bb = false then 4 else if O = [] then 1 else 2 := by
  rcases h with ⟨h2, _⟩ | ⟨_, h2, _⟩ | ⟨_, _, h2, _⟩ | ⟨_, _, _, h2, _⟩ | ⟨_, _, _, _, h2, h3, h4⟩
  · rw [h0] at h2; cases h2
  · rw [h1] at h2; cases h2
  · omega
  · rw [hb] at h2; cases h2
  · exact ⟨h2, h3, h4⟩
theorem hasE_yes {l : List En} {s : ByteArray} {i : Nat} (hi : i < l.length) (h : (l[i].pod.id.toList == s.toList) = true) : hasE l s = true := List.any_eq_true.2 ⟨l[i], List.getElem_mem hi, by first | exact h | simpa using h⟩
theorem hasE_notIn {l : List En} {s : ByteArray} (h : NotIn l s l.length) : hasE l s = false := by
  cases e : hasE l s
  · rfl
  · obtain ⟨x, hx, h2⟩ := List.any_eq_true.1 e
    obtain ⟨i, hi, rfl⟩ := List.getElem_of_mem hx
    exact absurd (toList_inj (by first | exact h2 | simpa using h2)) (h i hi hi)
def GivesDD (k s : Int) (O : List ByteArray) (er : Int) (w : World) (e : Ending) (w' : World) : Prop := ∃ (A : Option Addr) (n : Nat), e = .returned (.tuple #[.agg #[.int .i64 k, .int .i64 s, .slice A O.length n], .int .i64 er]) ∧ Own w' w.heap.size 9 encS (.slice A O.length n) O ∧ Below w.heap.size w w'
structure DR (f : Cf) (a b c : Bool) (p : Pd) (w W : World) : Prop where
  cf : Blk W (w.heap.size) 25 #[.int .i64 f.cap.a, .int .i64 f.cap.b, .int .i64 f.cap.c, .int .i64 f.room.a, .int .i64 f.room.b, .int .i64 f.room.c, .slice f.A f.ts.length f.n, .int .i64 f.per, .int .i64 f.ret, .int .i64 f.age, .int .i64 f.dead]
  on : Blk W (w.heap.size + 1) 27 #[.bool a, .bool b, .bool c]
  pb : Blk W (w.heap.size + 1 + 1) 29 #[.string p.id, .int .i64 p.prio, .bool p.crit, .int .i64 p.q0, .int .i64 p.q1, .int .i64 p.q2, .int .i64 p.l0, .int .i64 p.l1, .int .i64 p.l2, .string p.image, .int .i64 p.size]
  vd : Blk W (w.heap.size + 1 + 1 + 1) 36 #[.int .i64 0, .int .i64 0, .slice none 0 0]
  bel : Below w.heap.size w W
theorem DR.below {f : Cf} {a b c : Bool} {p : Pd} {w W W' : World} (h : DR f a b c p w W) (hb : Below W.heap.size W W') : DR f a b c p w W' := ⟨h.cf.belowAll hb, h.on.belowAll hb, h.pb.belowAll hb, h.vd.belowAll hb, h.bel.trans (hb.mono h.bel.size)⟩
theorem DR.alloc {f : Cf} {a b c : Bool} {p : Pd} {w W : World} (h : DR f a b c p w W) (o : Obj) : DR f a b c p w (W.alloc o) := ⟨h.cf.alloc o, h.on.alloc o, h.pb.alloc o, h.vd.alloc o, h.bel.alloc h.bel.size o⟩
theorem DR.drew {f : Cf} {a b c : Bool} {p : Pd} {w W : World} (h : DR f a b c p w W) : DR f a b c p w W.drew := ⟨h.cf.drew, h.on.drew, h.pb.drew, h.vd.drew, h.bel.drew⟩
theorem DR.new (f : Cf) (a b c : Bool) (p : Pd) (w : World) : DR f a b c p w ((((w.alloc (.cells #[.int .i64 f.cap.a, .int .i64 f.cap.b, .int .i64 f.cap.c, .int .i64 f.room.a, .int .i64 f.room.b, .int .i64 f.room.c, .slice f.A f.ts.length f.n, .int .i64 f.per, .int .i64 f.ret, .int .i64 f.age, .int .i64 f.dead] 25)).alloc (.cells #[.bool a, .bool b, .bool c] 27)).alloc (.cells #[.string p.id, .int .i64 p.prio, .bool p.crit, .int .i64 p.q0, .int .i64 p.q1, .int .i64 p.q2, .int .i64 p.l0, .int .i64 p.l1, .int .i64 p.l2, .string p.image, .int .i64 p.size] 29)).alloc (.cells #[.int .i64 0, .int .i64 0, .slice none 0 0] 36)) := by
  have z1 : (w.alloc (.cells #[.int .i64 f.cap.a, .int .i64 f.cap.b, .int .i64 f.cap.c, .int .i64 f.room.a, .int .i64 f.room.b, .int .i64 f.room.c, .slice f.A f.ts.length f.n, .int .i64 f.per, .int .i64 f.ret, .int .i64 f.age, .int .i64 f.dead] 25)).heap.size = w.heap.size + 1 := by simp
  have z2 : ((w.alloc (.cells #[.int .i64 f.cap.a, .int .i64 f.cap.b, .int .i64 f.cap.c, .int .i64 f.room.a, .int .i64 f.room.b, .int .i64 f.room.c, .slice f.A f.ts.length f.n, .int .i64 f.per, .int .i64 f.ret, .int .i64 f.age, .int .i64 f.dead] 25)).alloc (.cells #[.bool a, .bool b, .bool c] 27)).heap.size = w.heap.size + 1 + 1 := by simp
  have z3 : (((w.alloc (.cells #[.int .i64 f.cap.a, .int .i64 f.cap.b, .int .i64 f.cap.c, .int .i64 f.room.a, .int .i64 f.room.b, .int .i64 f.room.c, .slice f.A f.ts.length f.n, .int .i64 f.per, .int .i64 f.ret, .int .i64 f.age, .int .i64 f.dead] 25)).alloc (.cells #[.bool a, .bool b, .bool c] 27)).alloc (.cells #[.string p.id, .int .i64 p.prio, .bool p.crit, .int .i64 p.q0, .int .i64 p.q1, .int .i64 p.q2, .int .i64 p.l0, .int .i64 p.l1, .int .i64 p.l2, .string p.image, .int .i64 p.size] 29)).heap.size = w.heap.size + 1 + 1 + 1 := by simp
  have b0 := Blk.new w 25 #[.int .i64 f.cap.a, .int .i64 f.cap.b, .int .i64 f.cap.c, .int .i64 f.room.a, .int .i64 f.room.b, .int .i64 f.room.c, .slice f.A f.ts.length f.n, .int .i64 f.per, .int .i64 f.ret, .int .i64 f.age, .int .i64 f.dead]
  have b1 := Blk.new (w.alloc (.cells #[.int .i64 f.cap.a, .int .i64 f.cap.b, .int .i64 f.cap.c, .int .i64 f.room.a, .int .i64 f.room.b, .int .i64 f.room.c, .slice f.A f.ts.length f.n, .int .i64 f.per, .int .i64 f.ret, .int .i64 f.age, .int .i64 f.dead] 25)) 27 #[.bool a, .bool b, .bool c]
  rw [z1] at b1
  have b2 := Blk.new ((w.alloc (.cells #[.int .i64 f.cap.a, .int .i64 f.cap.b, .int .i64 f.cap.c, .int .i64 f.room.a, .int .i64 f.room.b, .int .i64 f.room.c, .slice f.A f.ts.length f.n, .int .i64 f.per, .int .i64 f.ret, .int .i64 f.age, .int .i64 f.dead] 25)).alloc (.cells #[.bool a, .bool b, .bool c] 27)) 29 #[.string p.id, .int .i64 p.prio, .bool p.crit, .int .i64 p.q0, .int .i64 p.q1, .int .i64 p.q2, .int .i64 p.l0, .int .i64 p.l1, .int .i64 p.l2, .string p.image, .int .i64 p.size]
  rw [z2] at b2
  have b3 := Blk.new (((w.alloc (.cells #[.int .i64 f.cap.a, .int .i64 f.cap.b, .int .i64 f.cap.c, .int .i64 f.room.a, .int .i64 f.room.b, .int .i64 f.room.c, .slice f.A f.ts.length f.n, .int .i64 f.per, .int .i64 f.ret, .int .i64 f.age, .int .i64 f.dead] 25)).alloc (.cells #[.bool a, .bool b, .bool c] 27)).alloc (.cells #[.string p.id, .int .i64 p.prio, .bool p.crit, .int .i64 p.q0, .int .i64 p.q1, .int .i64 p.q2, .int .i64 p.l0, .int .i64 p.l1, .int .i64 p.l2, .string p.image, .int .i64 p.size] 29)) 36 #[.int .i64 0, .int .i64 0, .slice none 0 0]
  rw [z3] at b3
  have bel : Below w.heap.size w ((((w.alloc (.cells #[.int .i64 f.cap.a, .int .i64 f.cap.b, .int .i64 f.cap.c, .int .i64 f.room.a, .int .i64 f.room.b, .int .i64 f.room.c, .slice f.A f.ts.length f.n, .int .i64 f.per, .int .i64 f.ret, .int .i64 f.age, .int .i64 f.dead] 25)).alloc (.cells #[.bool a, .bool b, .bool c] 27)).alloc (.cells #[.string p.id, .int .i64 p.prio, .bool p.crit, .int .i64 p.q0, .int .i64 p.q1, .int .i64 p.q2, .int .i64 p.l0, .int .i64 p.l1, .int .i64 p.l2, .string p.image, .int .i64 p.size] 29)).alloc (.cells #[.int .i64 0, .int .i64 0, .slice none 0 0] 36)) := ((((Below.refl w.heap.size w).alloc (Nat.le_refl _) _).alloc (by rw [z1]; omega) _).alloc (by rw [z2]; omega) _).alloc (by rw [z3]; omega) _
  exact ⟨(((b0.alloc _).alloc _).alloc _), ((b1.alloc _).alloc _), (b2.alloc _), b3, bel⟩
theorem drCells {f : Cf} {a b c : Bool} {p : Pd} {w W : World} (h : DR f a b c p w W) : W.cell? ⟨w.heap.size, 3, none⟩ = some (.int .i64 f.room.a) ∧ W.cell? ⟨w.heap.size, 4, none⟩ = some (.int .i64 f.room.b) ∧ W.cell? ⟨w.heap.size, 5, none⟩ = some (.int .i64 f.room.c) ∧ W.cell? ⟨w.heap.size + 1 + 1, 0, none⟩ = some (.string p.id) ∧ W.cell? ⟨w.heap.size + 1 + 1, 1, none⟩ = some (.int .i64 p.prio) ∧ W.cell? ⟨w.heap.size + 1 + 1, 2, none⟩ = some (.bool p.crit) ∧ W.cell? ⟨w.heap.size + 1 + 1, 3, none⟩ = some (.int .i64 p.q0) ∧ W.cell? ⟨w.heap.size + 1 + 1, 4, none⟩ = some (.int .i64 p.q1) ∧ W.cell? ⟨w.heap.size + 1 + 1, 5, none⟩ = some (.int .i64 p.q2) ∧ W.cell? ⟨w.heap.size + 1 + 1, 6, none⟩ = some (.int .i64 p.l0) ∧ W.cell? ⟨w.heap.size + 1 + 1, 7, none⟩ = some (.int .i64 p.l1) ∧ W.cell? ⟨w.heap.size + 1 + 1, 8, none⟩ = some (.int .i64 p.l2) ∧ W.cell? ⟨w.heap.size + 1 + 1, 9, none⟩ = some (.string p.image) ∧ W.cell? ⟨w.heap.size + 1 + 1, 10, none⟩ = some (.int .i64 p.size) := by
  obtain ⟨x0, x1, x2, x3, x4, x5, x6, x7, x8, x9, x10⟩ := h.pb.pd
  exact ⟨h.cf.cell 3, h.cf.cell 4, h.cf.cell 5, x0, x1, x2, x3, x4, x5, x6, x7, x8, x9, x10⟩
set_option maxRecDepth 100000 in
set_option maxHeartbeats 8000000 in
theorem refDecide_any {f : Cf} {l : List En} {a b c : Bool} {p : Pd} {k s er : Int} {O : List ByteArray} (hV : VerD f.room p l a b c k s O er) (hF : FitE l) (h0 : Room0 f) (hs : p.small = true) (A : Option Addr) (n : Nat) (w : World) (hr : Rds w encN A l) (hw : ∀ x ∈ l, x.pod.Wf ∧ I64 x.phase) (hp : p.Wf) :
    Calls Tryz.prog 10 #[.agg f.cells, .slice A l.length n, .agg #[.bool a, .bool b, .bool c], .agg p.cells] w (GivesDD k s O er w) := by
  have mixed : Tryz.prog.follows Departure.mixedOrders = true := by kernel_rfl
  have HQ := Lib.hid (DR.new f a b c p w)
  have HR := Lib.hid hr
  have HW := Lib.hid hw
  have HPW := Lib.hid hp
  have HV := Lib.hid hV
  have HF := Lib.hid hF
  have HR0 := Lib.hid h0
  have HSM := Lib.hid hs
  have hl64 := hF.len
  clear hr hw hp hV hF h0 hs
  obtain ⟨v1, hv1⟩ : ∃ v, p.right = v := ⟨_, rfl⟩
  have H1 := Lib.hid hv1
  clear hv1
  go_enter Tryz.func10, Tryz.ntmps10
  have cp := HQ.out.pb.cell
  go_wp2_with fail
  refine (rightV_any H1.out _ HPW.out).mono ?_; rintro e w1 ⟨rfl, hb⟩
  have HQ := Lib.hid (HQ.out.below hb)
  clear hb cp
  cases v1
  · obtain ⟨rfl, rfl, rfl, rfl⟩ := HV.out.wrong H1.out
    go_wp2_with (refine wl_store_blk rfl 36 (.tmp 8) (.tmp 17) rfl (w.heap.size + 1 + 1 + 1) 36 #[.int .i64 0, .int .i64 0, .slice none 0 0] #[.int .i64 0, .int .i64 0, .slice none 0 0] rfl rfl HQ.out.vd rfl infoV (by simp [Value.oneCell']) ?_; intro w5 hR5 hg5 hs5)
    have hl5 := hR5.cell
    have HB5 : Below w.heap.size w w5 := HQ.out.bel.grown hg5 HQ.out.bel.size (by intro k hk; cases hk; omega)
    exact bodyPost_ret (v := .tuple #[.agg #[.int .i64 0, .int .i64 0, .slice none 0 0], .int .i64 1]) (by simp [results, Tryz.results10, go_sem, hl5]) rfl ⟨none, 0, rfl, Own.nil_ _ _ _ _, HB5⟩
  · go_wp2_with fail
    go_loopw [10] (fun ii wr => ∃ i : Nat, i ≤ l.length ∧ ii = .int .i64 i ∧ NotIn l p.id i ∧ DR f a b c p w wr) (fun ii _ => l.length - (intOf ii).toNat)
    case atStart => exact ⟨0, by omega, rfl, fun _ _ h => by omega, HQ.out⟩
    case round =>
      clear HQ
      obtain ⟨i, hi, rfl, hno, hq⟩ := hrel
      have HNI := Lib.hid hno
      have HQ := Lib.hid hq
      clear hno hq
      by_cases hlt : i < l.length
      · obtain ⟨b0, off, hA, _⟩ := HR.out.en hlt
        obtain rfl : A = some ⟨b0, off, none⟩ := hA
        have dk : decide ((i : Int) < (l.length : Int)) = true := decide_eq_true (by omega)
        have dk2 : (i : Int) < (l.length : Int) := by omega
        have HXI := Lib.hid (List.getElem?_eq_getElem hlt)
        have HYes := Lib.hid (show (l[i].pod.id.toList == p.id.toList) = true → hasE l p.id = true from fun h => hasE_yes hlt h)
        have HNo := Lib.hid (show (l[i].pod.id.toList == p.id.toList) = false → NotIn l p.id (i + 1) from fun h => HNI.out.snoc hlt h)
        generalize l[i] = x at *
        obtain ⟨x0, x1, x2, x3, x4, x5, x6, x7, x8, x9, x10, x11⟩ := HR.out.enAt HQ.out.bel HXI.out
        have y0 := HQ.out.pb.cell 0
        have y0 : wr.cell? ⟨w.heap.size + 1 + 1, 0, none⟩ = some (.string p.id) := y0
        go_wp2_with fail
        cases he : (x.pod.id.toList == p.id.toList)
        · have HN2 := Lib.hid (HNo.out he)
          go_quiet (fail)
          have HQ := Lib.hid (HQ.out.below (show Below wr.heap.size wr (wr.drewN nq) from ⟨rfl, rfl, rfl, Nat.le_refl _, fun _ _ => rfl⟩))
          go_wp2_with fail
          go_roundw
          case rel => exact ⟨i + 1, by omega, by go_num, HN2.out, HQ.out⟩
          case measure => simp [intOf]; omega
        · have HH := Lib.hid (HYes.out he)
          obtain ⟨rfl, rfl, rfl, rfl⟩ := HV.out.twice H1.out HH.out
          go_quiet (fail)
          have HQ := Lib.hid (HQ.out.below (show Below wr.heap.size wr (wr.drewN nq) from ⟨rfl, rfl, rfl, Nat.le_refl _, fun _ _ => rfl⟩))
          go_wp2_with (refine wl_store_blk rfl 36 (.tmp 8) (.tmp 33) rfl (w.heap.size + 1 + 1 + 1) 36 #[.int .i64 0, .int .i64 0, .slice none 0 0] #[.int .i64 0, .int .i64 0, .slice none 0 0] rfl rfl HQ.out.vd rfl infoV (by simp [Value.oneCell']) ?_; intro w5 hR5 hg5 hs5)
          have hl5 := hR5.cell
          have HB5 : Below w.heap.size w w5 := HQ.out.bel.grown hg5 HQ.out.bel.size (by intro k hk; cases hk; omega)
          exact bodyPost_ret (v := .tuple #[.agg #[.int .i64 0, .int .i64 0, .slice none 0 0], .int .i64 5]) (by simp [results, Tryz.results10, go_sem, hl5]) rfl ⟨none, 0, rfl, Own.nil_ _ _ _ _, HB5⟩
      · obtain rfl : i = l.length := by omega
        have dk : decide ((l.length : Int) < (l.length : Int)) = false := by simp
        have H2 := Lib.hid (hasE_notIn HNI.out)
        clear HNI
        by_cases hl : 64 ≤ l.length
        · have dl : decide ((64 : Int) ≤ (l.length : Int)) = true := decide_eq_true (by omega)
          have dln : decide (64 ≤ l.length) = true := decide_eq_true hl
          obtain ⟨rfl, rfl, rfl, rfl⟩ := HV.out.full H1.out H2.out hl
          go_wp2_with (refine wl_store_blk rfl 36 (.tmp 8) (.tmp 37) rfl (w.heap.size + 1 + 1 + 1) 36 #[.int .i64 0, .int .i64 0, .slice none 0 0] #[.int .i64 0, .int .i64 0, .slice none 0 0] rfl rfl HQ.out.vd rfl infoV (by simp [Value.oneCell']) ?_; intro w5 hR5 hg5 hs5)
          have hl5 := hR5.cell
          have HB5 : Below w.heap.size w w5 := HQ.out.bel.grown hg5 HQ.out.bel.size (by intro k hk; cases hk; omega)
          exact bodyPost_ret (v := .tuple #[.agg #[.int .i64 0, .int .i64 0, .slice none 0 0], .int .i64 6]) (by simp [results, Tryz.results10, go_sem, hl5]) rfl ⟨none, 0, rfl, Own.nil_ _ _ _ _, HB5⟩
        · have dl : decide ((64 : Int) ≤ (l.length : Int)) = false := decide_eq_false (by omega)
          have dln : decide (64 ≤ l.length) = false := decide_eq_false hl
          have hl2 : l.length < 64 := by omega
          clear hl
          go_wp2_with fail
          go_loopw [11] (fun ii wr => ∃ i : Nat, i ≤ 3 ∧ ii = .int .i64 i ∧ NotOn a b c p i ∧ DR f a b c p w wr) (fun ii _ => 3 - (intOf ii).toNat)
          case atStart => exact ⟨0, by omega, rfl, ⟨fun h => by omega, fun h => by omega, fun h => by omega⟩, HQ.out⟩
          case round =>
            clear HQ
            obtain ⟨i, hi, rfl, hno, hq⟩ := hrel
            have HNO := Lib.hid hno
            have HQ := Lib.hid hq
            clear hno hq
            obtain rfl | rfl | rfl | rfl : i = 0 ∨ i = 1 ∨ i = 2 ∨ i = 3 := by omega
            · cases a
              · have HNB : Hid (NotOn false b c p 1) := by have h := HNO.out; exact NotOn.off0 h
                have con := HQ.out.on.cell
                go_wp2_with fail
                go_roundw
                case rel => exact ⟨1, by omega, by rfl, HNB.out, HQ.out⟩
                case measure => simp [intOf]
              · have con := HQ.out.on.cell
                have cp := HQ.out.pb.cell
                go_wp2_with fail
                obtain ⟨v, hv⟩ : ∃ v, barK p 0 = v := ⟨_, rfl⟩
                refine (bars0_any hv _).mono ?_; rintro e w3 ⟨rfl, hb⟩
                have HQ := Lib.hid (HQ.out.below hb)
                have HBK := Lib.hid hv
                clear hb con cp hv
                cases v
                · have HNB : Hid (NotOn true b c p 1) := NotOn.no0 HNO.out HBK.out
                  go_wp2_with fail
                  go_roundw
                  case rel => exact ⟨1, by omega, by rfl, HNB.out, HQ.out⟩
                  case measure => simp [intOf]
                · have HBR := Lib.hid (NotOn.yes0 HNO.out HBK.out)
                  obtain ⟨rfl, rfl, rfl, rfl⟩ := HV.out.barred H1.out H2.out hl2 HBR.out
                  go_wp2_with (refine wl_store_blk rfl 36 (.tmp 8) (.tmp 51) rfl (w.heap.size + 1 + 1 + 1) 36 #[.int .i64 0, .int .i64 0, .slice none 0 0] #[.int .i64 3, .int .i64 0, .slice none 0 0] rfl rfl HQ.out.vd rfl infoV (by simp [Value.oneCell']) ?_; intro w5 hR5 hg5 hs5)
                  have hl5 := hR5.cell
                  have HB5 : Below w.heap.size w w5 := HQ.out.bel.grown hg5 HQ.out.bel.size (by intro k hk; cases hk; omega)
                  exact bodyPost_ret (v := .tuple #[.agg #[.int .i64 3, .int .i64 0, .slice none 0 0], .int .i64 0]) (by simp [results, Tryz.results10, go_sem, hl5]) rfl ⟨none, 0, rfl, Own.nil_ _ _ _ _, HB5⟩
            · cases b
              · have HNB : Hid (NotOn a false c p 2) := by have h := HNO.out; exact NotOn.off1 h
                have con := HQ.out.on.cell
                go_wp2_with fail
                go_roundw
                case rel => exact ⟨2, by omega, by rfl, HNB.out, HQ.out⟩
                case measure => simp [intOf]
              · have con := HQ.out.on.cell
                have cp := HQ.out.pb.cell
                go_wp2_with fail
                obtain ⟨v, hv⟩ : ∃ v, barK p 1 = v := ⟨_, rfl⟩
                refine (bars1_any hv _).mono ?_; rintro e w3 ⟨rfl, hb⟩
                have HQ := Lib.hid (HQ.out.below hb)
                have HBK := Lib.hid hv
                clear hb con cp hv
                cases v
                · have HNB : Hid (NotOn a true c p 2) := NotOn.no1 HNO.out HBK.out
                  go_wp2_with fail
                  go_roundw
                  case rel => exact ⟨2, by omega, by rfl, HNB.out, HQ.out⟩
                  case measure => simp [intOf]
                · have HBR := Lib.hid (NotOn.yes1 HNO.out HBK.out)
                  obtain ⟨rfl, rfl, rfl, rfl⟩ := HV.out.barred H1.out H2.out hl2 HBR.out
                  go_wp2_with (refine wl_store_blk rfl 36 (.tmp 8) (.tmp 51) rfl (w.heap.size + 1 + 1 + 1) 36 #[.int .i64 0, .int .i64 0, .slice none 0 0] #[.int .i64 3, .int .i64 1, .slice none 0 0] rfl rfl HQ.out.vd rfl infoV (by simp [Value.oneCell']) ?_; intro w5 hR5 hg5 hs5)
                  have hl5 := hR5.cell
                  have HB5 : Below w.heap.size w w5 := HQ.out.bel.grown hg5 HQ.out.bel.size (by intro k hk; cases hk; omega)
                  exact bodyPost_ret (v := .tuple #[.agg #[.int .i64 3, .int .i64 1, .slice none 0 0], .int .i64 0]) (by simp [results, Tryz.results10, go_sem, hl5]) rfl ⟨none, 0, rfl, Own.nil_ _ _ _ _, HB5⟩
            · cases c
              · have HNB : Hid (NotOn a b false p 3) := by have h := HNO.out; exact NotOn.off2 h
                have con := HQ.out.on.cell
                go_wp2_with fail
                go_roundw
                case rel => exact ⟨3, by omega, by rfl, HNB.out, HQ.out⟩
                case measure => simp [intOf]
              · have con := HQ.out.on.cell
                have cp := HQ.out.pb.cell
                go_wp2_with fail
                obtain ⟨v, hv⟩ : ∃ v, barK p 2 = v := ⟨_, rfl⟩
                refine (bars2_any hv _).mono ?_; rintro e w3 ⟨rfl, hb⟩
                have HQ := Lib.hid (HQ.out.below hb)
                have HBK := Lib.hid hv
                clear hb con cp hv
                cases v
                · have HNB : Hid (NotOn a b true p 3) := NotOn.no2 HNO.out HBK.out
                  go_wp2_with fail
                  go_roundw
                  case rel => exact ⟨3, by omega, by rfl, HNB.out, HQ.out⟩
                  case measure => simp [intOf]
                · have HBR := Lib.hid (NotOn.yes2 HNO.out HBK.out)
                  obtain ⟨rfl, rfl, rfl, rfl⟩ := HV.out.barred H1.out H2.out hl2 HBR.out
                  go_wp2_with (refine wl_store_blk rfl 36 (.tmp 8) (.tmp 51) rfl (w.heap.size + 1 + 1 + 1) 36 #[.int .i64 0, .int .i64 0, .slice none 0 0] #[.int .i64 3, .int .i64 2, .slice none 0 0] rfl rfl HQ.out.vd rfl infoV (by simp [Value.oneCell']) ?_; intro w5 hR5 hg5 hs5)
                  have hl5 := hR5.cell
                  have HB5 : Below w.heap.size w w5 := HQ.out.bel.grown hg5 HQ.out.bel.size (by intro k hk; cases hk; omega)
                  exact bodyPost_ret (v := .tuple #[.agg #[.int .i64 3, .int .i64 2, .slice none 0 0], .int .i64 0]) (by simp [results, Tryz.results10, go_sem, hl5]) rfl ⟨none, 0, rfl, Own.nil_ _ _ _ _, HB5⟩
            · obtain ⟨hs0, he0, bb, hwho, hk⟩ := HV.out.who H1.out H2.out hl2 HNO.out.none_
              subst hs0 he0
              have HK := Lib.hid hk
              have HWHO := Lib.hid hwho
              have HFV := Lib.hid (fitV_of HF.out HR0.out HSM.out H1.out H2.out)
              have HPWS := Lib.hid (show ∀ x ∈ podsD l, x.Wf from fun x hx => (podsD_wf HF.out HW.out x hx).1)
              have HPL : Hid ((podsD l).length = l.length) := podsD_len l
              have HOL := Lib.hid hwho.len
              clear HNO hk hwho HV
              have ccf := HQ.out.cf.cell
              have cp := HQ.out.pb.cell
              have HQ := Lib.hid HQ.out.drew
              clear ccf cp
              go_wp2_with fail
              refine wp_region_held_drew (S := (fun w' => w'.cell? ⟨w.heap.size, 3, none⟩ = some (.int .i64 f.room.a) ∧ w'.cell? ⟨w.heap.size, 4, none⟩ = some (.int .i64 f.room.b) ∧ w'.cell? ⟨w.heap.size, 5, none⟩ = some (.int .i64 f.room.c) ∧ w'.cell? ⟨w.heap.size + 1 + 1, 0, none⟩ = some (.string p.id) ∧ w'.cell? ⟨w.heap.size + 1 + 1, 1, none⟩ = some (.int .i64 p.prio) ∧ w'.cell? ⟨w.heap.size + 1 + 1, 2, none⟩ = some (.bool p.crit) ∧ w'.cell? ⟨w.heap.size + 1 + 1, 3, none⟩ = some (.int .i64 p.q0) ∧ w'.cell? ⟨w.heap.size + 1 + 1, 4, none⟩ = some (.int .i64 p.q1) ∧ w'.cell? ⟨w.heap.size + 1 + 1, 5, none⟩ = some (.int .i64 p.q2) ∧ w'.cell? ⟨w.heap.size + 1 + 1, 6, none⟩ = some (.int .i64 p.l0) ∧ w'.cell? ⟨w.heap.size + 1 + 1, 7, none⟩ = some (.int .i64 p.l1) ∧ w'.cell? ⟨w.heap.size + 1 + 1, 8, none⟩ = some (.int .i64 p.l2) ∧ w'.cell? ⟨w.heap.size + 1 + 1, 9, none⟩ = some (.string p.image) ∧ w'.cell? ⟨w.heap.size + 1 + 1, 10, none⟩ = some (.int .i64 p.size))) (by kernel_rfl) (drCells HQ.out) (fun hHeld => ?_)
              generalize wr.drew = wd at *
              refine held_take 0 53 (.pointer (some ⟨w.heap.size, 3, none⟩)) rfl rfl (by kernel_rfl) (by kernel_rfl) (by kernel_rfl) (fun _ _ _ h => h) (by rfl) (by intro w' hSw; (try dsimp only at hSw); go_simp; (try (with_reducible rfl))) (by assumption) ?_
              simp only [Act.put, List.setIfInBounds_toArray, List.set_cons_zero, List.set_cons_succ]
              refine held_take 1 54 (.agg #[.int .i64 f.room.a, .int .i64 f.room.b, .int .i64 f.room.c]) rfl rfl (by kernel_rfl) (by kernel_rfl) (by kernel_rfl) (fun _ _ _ h => h) (by rfl) (by intro w' hSw; (try dsimp only at hSw); go_simp; (try (with_reducible rfl))) (by assumption) ?_
              simp only [Act.put, List.setIfInBounds_toArray, List.set_cons_zero, List.set_cons_succ]
              refine held_take 2 55 (.slice A l.length n) rfl rfl (by kernel_rfl) (by kernel_rfl) (by kernel_rfl) (fun _ _ _ h => h) (by rfl) (by intro w' hSw; (try dsimp only at hSw); go_simp; (try (with_reducible rfl))) (by assumption) ?_
              simp only [Act.put, List.setIfInBounds_toArray, List.set_cons_zero, List.set_cons_succ]
              refine held_take 4 57 (.agg #[.string p.id, .int .i64 p.prio, .bool p.crit, .int .i64 p.q0, .int .i64 p.q1, .int .i64 p.q2, .int .i64 p.l0, .int .i64 p.l1, .int .i64 p.l2, .string p.image, .int .i64 p.size]) rfl rfl (by kernel_rfl) (by kernel_rfl) (by kernel_rfl) (fun _ _ _ h => h) (by rfl) (by intro w' hSw; (try dsimp only at hSw); go_simp; (try (with_reducible rfl))) (by assumption) ?_
              simp only [Act.put, List.setIfInBounds_toArray, List.set_cons_zero, List.set_cons_succ]
              refine held_call 3 56 rfl rfl (by kernel_rfl) (by rfl) (fun K hK => ?_)
              go_simp
              go_at_call 22; with_reducible refine (pods_any l A n _ (HR.out.below HQ.out.bel) (by omega)).mono ?_; rintro e w6 ⟨Ap, np, rfl, ho, hb⟩
              have HQ := Lib.hid (HQ.out.below hb)
              have HPO := Lib.hid ho
              clear hb ho
              refine hK _ _ (drCells HQ.out) ?_
              have hHeld := (show w6.cell? ⟨w.heap.size, 3, none⟩ = some (.int .i64 f.room.a) ∧ w6.cell? ⟨w.heap.size, 4, none⟩ = some (.int .i64 f.room.b) ∧ w6.cell? ⟨w.heap.size, 5, none⟩ = some (.int .i64 f.room.c) ∧ w6.cell? ⟨w.heap.size + 1 + 1, 0, none⟩ = some (.string p.id) ∧ w6.cell? ⟨w.heap.size + 1 + 1, 1, none⟩ = some (.int .i64 p.prio) ∧ w6.cell? ⟨w.heap.size + 1 + 1, 2, none⟩ = some (.bool p.crit) ∧ w6.cell? ⟨w.heap.size + 1 + 1, 3, none⟩ = some (.int .i64 p.q0) ∧ w6.cell? ⟨w.heap.size + 1 + 1, 4, none⟩ = some (.int .i64 p.q1) ∧ w6.cell? ⟨w.heap.size + 1 + 1, 5, none⟩ = some (.int .i64 p.q2) ∧ w6.cell? ⟨w.heap.size + 1 + 1, 6, none⟩ = some (.int .i64 p.l0) ∧ w6.cell? ⟨w.heap.size + 1 + 1, 7, none⟩ = some (.int .i64 p.l1) ∧ w6.cell? ⟨w.heap.size + 1 + 1, 8, none⟩ = some (.int .i64 p.l2) ∧ w6.cell? ⟨w.heap.size + 1 + 1, 9, none⟩ = some (.string p.image) ∧ w6.cell? ⟨w.heap.size + 1 + 1, 10, none⟩ = some (.int .i64 p.size) from drCells HQ.out)
              clear hK K
              simp only [Act.put, List.setIfInBounds_toArray, List.set_cons_zero, List.set_cons_succ]
              refine held_call 5 58 rfl rfl (by kernel_rfl) (by rfl) (fun K hK => ?_)
              go_simp
              go_at_call 21; (with_reducible refine (refChooseO_any HFV.out HWHO.out Ap np _ HPO.out.toRds HPWS.out HPW.out).mono ?_); rintro e w7 ⟨Ax, cx, rfl, ho, hb⟩
              have HX := Lib.hid (ho.mono (show w.heap.size + 1 + 1 + 1 + 1 ≤ w6.heap.size from HQ.out.vd.lt))
              have HQ := Lib.hid (HQ.out.below hb)
              clear ho hb
              refine hK _ _ (drCells HQ.out) ?_
              have hHeld := (show w7.cell? ⟨w.heap.size, 3, none⟩ = some (.int .i64 f.room.a) ∧ w7.cell? ⟨w.heap.size, 4, none⟩ = some (.int .i64 f.room.b) ∧ w7.cell? ⟨w.heap.size, 5, none⟩ = some (.int .i64 f.room.c) ∧ w7.cell? ⟨w.heap.size + 1 + 1, 0, none⟩ = some (.string p.id) ∧ w7.cell? ⟨w.heap.size + 1 + 1, 1, none⟩ = some (.int .i64 p.prio) ∧ w7.cell? ⟨w.heap.size + 1 + 1, 2, none⟩ = some (.bool p.crit) ∧ w7.cell? ⟨w.heap.size + 1 + 1, 3, none⟩ = some (.int .i64 p.q0) ∧ w7.cell? ⟨w.heap.size + 1 + 1, 4, none⟩ = some (.int .i64 p.q1) ∧ w7.cell? ⟨w.heap.size + 1 + 1, 5, none⟩ = some (.int .i64 p.q2) ∧ w7.cell? ⟨w.heap.size + 1 + 1, 6, none⟩ = some (.int .i64 p.l0) ∧ w7.cell? ⟨w.heap.size + 1 + 1, 7, none⟩ = some (.int .i64 p.l1) ∧ w7.cell? ⟨w.heap.size + 1 + 1, 8, none⟩ = some (.int .i64 p.l2) ∧ w7.cell? ⟨w.heap.size + 1 + 1, 9, none⟩ = some (.string p.image) ∧ w7.cell? ⟨w.heap.size + 1 + 1, 10, none⟩ = some (.int .i64 p.size) from drCells HQ.out)
              clear hK K
              simp only [Act.put, List.setIfInBounds_toArray, List.set_cons_zero, List.set_cons_succ]
              refine held_take 6 52 (.tuple #[.slice Ax O.length cx, .bool bb]) rfl rfl (by kernel_rfl) (by kernel_rfl) (by kernel_rfl) (fun _ _ _ h => h) (by rfl) (by intro w' hSw; (try dsimp only at hSw); go_simp; (try (with_reducible rfl))) (by assumption) ?_
              simp only [Act.put, List.setIfInBounds_toArray, List.set_cons_zero, List.set_cons_succ]
              refine held_take 7 59 (.slice Ax O.length cx) rfl rfl (by kernel_rfl) (by kernel_rfl) (by kernel_rfl) (fun _ _ _ h => h) (by rfl) (by intro w' hSw; (try dsimp only at hSw); go_simp; (try (with_reducible rfl))) (by assumption) ?_
              simp only [Act.put, List.setIfInBounds_toArray, List.set_cons_zero, List.set_cons_succ]
              refine held_take 8 60 (.bool bb) rfl rfl (by kernel_rfl) (by kernel_rfl) (by kernel_rfl) (fun _ _ _ h => h) (by rfl) (by intro w' hSw; (try dsimp only at hSw); go_simp; (try (with_reducible rfl))) (by assumption) ?_
              simp only [Act.put, List.setIfInBounds_toArray, List.set_cons_zero, List.set_cons_succ]
              refine held_take 9 12 (.slice Ax O.length cx) rfl rfl (by kernel_rfl) (by kernel_rfl) (by kernel_rfl) (fun _ _ _ h => h) (by rfl) (by intro w' hSw; (try dsimp only at hSw); go_simp; (try (with_reducible rfl))) (by assumption) ?_
              simp only [Act.put, List.setIfInBounds_toArray, List.set_cons_zero, List.set_cons_succ]
              refine held_take 10 13 (.bool bb) rfl rfl (by kernel_rfl) (by kernel_rfl) (by kernel_rfl) (fun _ _ _ h => h) (by rfl) (by intro w' hSw; (try dsimp only at hSw); go_simp; (try (with_reducible rfl))) (by assumption) ?_
              simp only [Act.put, List.setIfInBounds_toArray, List.set_cons_zero, List.set_cons_succ]
              refine wpAnyH_done (by kernel_rfl) ?_ _
              clear hHeld
              have HLTV := Lib.hid HQ.out.vd.lt
              have HSZV := Lib.hid (show w.heap.size ≤ w.heap.size + 1 + 1 + 1 + 1 by omega)
              cases bb
              · obtain rfl : O = [] := (by obtain ⟨_, _, _, _, _, h⟩ := HWHO.out; exact h rfl)
                obtain rfl : k = 4 := HK.out
                go_wp2_with (refine wl_store_blk rfl 36 (.tmp 8) (.tmp 63) rfl (w.heap.size + 1 + 1 + 1) 36 #[.int .i64 0, .int .i64 0, .slice none 0 0] #[.int .i64 4, .int .i64 0, .slice none 0 0] rfl rfl HQ.out.vd rfl infoV (by simp [Value.oneCell']) ?_; intro w5 hR5 hg5 hs5)
                have hl5 := hR5.cell
                have HB5 : Below w.heap.size w w5 := HQ.out.bel.grown hg5 HQ.out.bel.size (by intro k hk; cases hk; omega)
                exact bodyPost_ret (v := .tuple #[.agg #[.int .i64 4, .int .i64 0, .slice none 0 0], .int .i64 0]) (by simp [results, Tryz.results10, go_sem, hl5]) rfl ⟨none, 0, rfl, Own.nil_ _ _ _ _, HB5⟩
              · by_cases hO : O = []
                · subst hO
                  obtain rfl : k = 1 := HK.out
                  go_wp2_with (refine wl_store_blk rfl 36 (.tmp 8) (.tmp 67) rfl (w.heap.size + 1 + 1 + 1) 36 #[.int .i64 0, .int .i64 0, .slice none 0 0] #[.int .i64 1, .int .i64 0, .slice none 0 0] rfl rfl HQ.out.vd rfl infoV (by simp [Value.oneCell']) ?_; intro w5 hR5 hg5 hs5)
                  have hl5 := hR5.cell
                  have HB5 : Below w.heap.size w w5 := HQ.out.bel.grown hg5 HQ.out.bel.size (by intro k hk; cases hk; omega)
                  exact bodyPost_ret (v := .tuple #[.agg #[.int .i64 1, .int .i64 0, .slice none 0 0], .int .i64 0]) (by simp [results, Tryz.results10, go_sem, hl5]) rfl ⟨none, 0, rfl, Own.nil_ _ _ _ _, HB5⟩
                · have hOp : 0 < O.length := List.length_pos_iff.2 hO
                  obtain rfl : k = 2 := by have h := HK.out; rw [if_neg (by simp), if_neg hO] at h; exact h
                  have dO : ((O.length : Int) == 0) = false := by simp; omega
                  have dOn : (O.length == 0) = false := by simp; omega
                  clear hO
                  go_wp2_with (refine wl_store_blk rfl 36 (.tmp 8) (.tmp 69) rfl (w.heap.size + 1 + 1 + 1) 36 #[.int .i64 0, .int .i64 0, .slice none 0 0] #[.int .i64 2, .int .i64 0, .slice Ax O.length cx] rfl rfl HQ.out.vd rfl infoV (by simp [Value.oneCell']) ?_; intro w5 hR5 hg5 hs5)
                  have hl5 := hR5.cell
                  have HB5 : Below w.heap.size w w5 := HQ.out.bel.grown hg5 HQ.out.bel.size (by intro k hk; cases hk; omega)
                  exact bodyPost_ret (v := .tuple #[.agg #[.int .i64 2, .int .i64 0, .slice Ax O.length cx], .int .i64 0]) (by simp [results, Tryz.results10, go_sem, hl5]) rfl ⟨Ax, cx, rfl, (HX.out.grown hg5 (.inr fun e => by have := (HX.out.block_lt _ e).1; have := HLTV.out; omega)).mono HSZV.out, HB5⟩
end Go.Proofs.YtlhmhcidknadmaaGreatDoor
