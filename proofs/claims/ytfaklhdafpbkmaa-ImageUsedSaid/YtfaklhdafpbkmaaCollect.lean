/- Collect: the program's and the reference's. -/
import Derived.Test.YtfaklhdafpbkmaaRefOrder
import Derived.Test.YtfaklhdafpbkmaaSat
namespace Go.Proofs.Ytfaklhdafpbkmaa
open Go.RowKit

def encBo : Enc Bool 1 := ⟨fun b => [.bool b], fun _ => rfl, fun _ u hu => by simp at hu; subst hu; rfl, by decide⟩
theorem Rds.bo {w : World} {A : Option Addr} {l : List Bool} (h : Rds w encBo A l) {i : Nat} (hi : i < l.length) : ∃ b off, A = some ⟨b, off, none⟩ ∧ b < w.heap.size ∧ w.cell? ⟨b, off + i, none⟩ = some (.bool l[i]) := by
  obtain ⟨b, off, e, hb, hc⟩ := h.at_ hi
  have := hc 0 (.bool l[i]) rfl
  exact ⟨b, off, e, hb, by simpa using this⟩
/-- does it go well? -/
def okW (well : List Bool) (k : Nat) : Bool := match well[k]? with | none => true | some b => b
/-- what went, and what is free, when k were asked -/
def colG (o : List Im) (well : List Bool) : Nat → List ByteArray × Int
  | 0 => ([], 0)
  | k + 1 => match o[k]? with
    | none => colG o well k
    | some x => if okW well k = true then ((colG o well k).1 ++ [x.name], satAdd (colG o well k).2 x.size) else colG o well k
theorem colG_yes {o : List Im} {well : List Bool} {k : Nat} {x : Im} (hx : o[k]? = some x) (h : okW well k = true) : colG o well (k + 1) = ((colG o well k).1 ++ [x.name], satAdd (colG o well k).2 x.size) := by rw [colG, hx]; simp only [if_pos h]
theorem colG_no {o : List Im} {well : List Bool} {k : Nat} {x : Im} (hx : o[k]? = some x) (h : okW well k = false) : colG o well (k + 1) = colG o well k := by rw [colG, hx]; simp [h]
theorem colG_len (o : List Im) (well : List Bool) : ∀ k, (colG o well k).1.length ≤ k := by
  intro k
  induction k with
  | zero => exact Nat.le_refl _
  | succ k ih =>
    rw [colG]
    split
    · omega
    · split
      · simp only [List.length_append, List.length_singleton]; omega
      · omega
theorem colG_I64 {o : List Im} (well : List Bool) (ho : ∀ x ∈ o, I64 x.size) : ∀ k, I64 (colG o well k).2 := by
  intro k
  induction k with
  | zero => show I64 0; unfold I64; omega
  | succ k ih =>
    rw [colG]
    split
    · exact ih
    · split
      · exact satAdd_I64 _ _ ih (ho _ (List.mem_of_getElem? (by assumption)))
      · exact ih
/-- k are asked -/
structure Stops (o : List Im) (well : List Bool) (need : Int) (k : Nat) : Prop where
  le : k ≤ o.length
  run : ∀ i, i < k → (colG o well i).2 < need
  stop : k = o.length ∨ need ≤ (colG o well k).2
theorem Stops.unique {o : List Im} {well : List Bool} {need : Int} {j k : Nat} (h1 : Stops o well need j) (h2 : Stops o well need k) : j = k := by
  rcases Nat.lt_trichotomy j k with h | h | h
  · have a := h2.run j h; rcases h1.stop with b | b
    · have := h2.le; omega
    · omega
  · exact h
  · have a := h1.run k h; rcases h2.stop with b | b
    · have := h1.le; omega
    · omega
def GivesCol (o : List Im) (well : List Bool) (need : Int) (w : World) (e : Ending) (w' : World) : Prop :=
  ∃ (k : Nat) (A : Option Addr) (c : Nat), Stops o well need k ∧ e = .returned (.tuple #[.slice A (colG o well k).1.length c, .int .i64 (colG o well k).2, .int .i64 k]) ∧ Own w' w.heap.size 9 encS (.slice A (colG o well k).1.length c) (colG o well k).1 ∧ Below w.heap.size w w'
theorem GivesCol.mk' {o o' : List Im} {well : List Bool} {need : Int} {w w' : World} {e : Ending} {k : Nat} {G : List ByteArray} {F : Int} {A : Option Addr} {c : Nat} (ho : o = o') (hst : Stops o well need k) (hg : (G, F) = colG o well k) (he : e = .returned (.tuple #[.slice A G.length c, .int .i64 F, .int .i64 k])) (hown : Own w' w.heap.size 9 encS (.slice A G.length c) G) (hb : Below w.heap.size w w') : GivesCol o' well need w e w' := by
  subst ho
  exact ⟨k, A, c, hst, by rw [← hg]; exact he, by rw [← hg]; exact hown, hb⟩
theorem col_yes {o : List Im} {well : List Bool} {k : Nat} {x : Im} {G : List ByteArray} {F : Int} (hg : (G, F) = colG o well k) (hx : o[k]? = some x) (h : okW well k = true) : (G ++ [x.name], satAdd F x.size) = colG o well (k + 1) := by rw [colG_yes hx h, ← hg]
theorem col_no {o : List Im} {well : List Bool} {k : Nat} {x : Im} {G : List ByteArray} {F : Int} (hg : (G, F) = colG o well k) (hx : o[k]? = some x) (h : okW well k = false) : (G, F) = colG o well (k + 1) := by rw [colG_no hx h]; exact hg
theorem orderOf_mem {l : List Im} {used : List ByteArray} {x : Im} (h : x ∈ orderOf l used) : x ∈ l := (List.mem_filter.1 ((List.mergeSort_perm _ imLe).mem_iff.1 h)).1
theorem orderOf_len (l : List Im) (used : List ByteArray) : (orderOf l used).length ≤ l.length := by
  unfold orderOf; rw [sortIm_len]; exact List.length_filter_le _ _

set_option maxRecDepth 100000 in
set_option maxHeartbeats 4000000 in
theorem collect_any (l : List Im) (pods : List ByteArray) (need : Int) (well : List Bool) (A B C : Option Addr) (c d f0 : Nat) (w : World) (hr : Rds w encI A l) (hs : Rds w encS B pods) (hw : Rds w encBo C well) (hl : l.length ≤ 100000) (hm : pods.length ≤ 9223372036854775807) (hq : well.length ≤ 9223372036854775807) (hwf : ∀ x ∈ l, I64 x.size) (hneed : I64 need) :
    Calls Try.prog 31 #[.slice A l.length c, .slice B pods.length d, .int .i64 need, .slice C well.length f0] w (GivesCol (orderOf l pods) well need w) := by
  have HR := Lib.hid hr
  have HS := Lib.hid hs
  have HV := Lib.hid hw
  have HWF := Lib.hid hwf
  obtain ⟨hn1, hn2⟩ := hneed
  clear hr hs hw hwf
  go_enter Try.func31, Try.ntmps31
  go_wp2_with fail
  go_step3
  go_wp2_with fail
  go_step3
  go_wp2_with fail
  refine (imgOrder_any l pods A B c d w HR.out HS.out hl hm).mono ?_; rintro e w1 ⟨o, hso, A', c', rfl, hO, hB⟩
  have ho := order_eq hso
  clear hso
  have hol : o.length ≤ 100000 := by rw [ho]; have := orderOf_len l pods; omega
  have hoI : ∀ x ∈ o, I64 x.size := fun x hx => HWF.out x (orderOf_mem (by rw [← ho]; exact hx))
  have HOI := Lib.hid hoI
  have HOE := Lib.hid ho
  have HOR := Lib.hid (And.intro hO hB)
  clear hO hB hoI ho
  go_wp2_with fail
  go_loopw [11, 12, 13, 20] (fun g f a i wr => ∃ (k : Nat) (G : List ByteArray) (F : Int) (A2 : Option Addr) (c2 : Nat), k ≤ o.length ∧ i = .int .i64 k ∧ (G, F) = colG o well k ∧ g = .slice A2 G.length c2 ∧ f = .int .i64 F ∧ a = .int .i64 k ∧ (∀ i, i < k → (colG o well i).2 < need) ∧ Own wr w1.heap.size 9 encS (.slice A2 G.length c2) G ∧ Below w1.heap.size w1 wr) (fun _ _ _ i _ => o.length - (intOf i).toNat)
  case atStart => exact ⟨0, [], 0, none, 0, by omega, rfl, rfl, rfl, rfl, rfl, (fun i hi => by omega), Own.nil_ _ _ _ _, Below.refl _ _⟩
  case round =>
    obtain ⟨k, G, F, A2, c2, hk, rfl, hg', rfl, rfl, rfl, hrun, hO2, hB2⟩ := hrel
    have HB := Lib.hid (And.intro hO2 (And.intro hB2 hrun))
    have HG := Lib.hid hg'
    have hgl : G.length ≤ 100000 := by have := colG_len o well k; rw [← hg'] at this; simp only at this; omega
    have hFI := colG_I64 well HOI.out k
    rw [← hg'] at hFI
    simp only at hFI
    have hF2 : (colG o well k).2 = F := by rw [← hg']
    have HF2 := Lib.hid hF2
    clear hO2 hB2 hrun hg' hF2
    by_cases hlt : k < o.length
    · have dk : decide ((k : Int) < (o.length : Int)) = true := decide_eq_true (by omega)
      have dk2 : (k : Int) < (o.length : Int) := by omega
      obtain ⟨b, off, rfl, hb, hc0, hc1, hc2⟩ := (HOR.out.1.toRds.below HB.out.2.1).im hlt
      have hxI := HOI.out _ (List.getElem_mem hlt)
      have hx0 := List.getElem?_eq_getElem hlt
      generalize o[k] = x at *
      have HX := Lib.hid hx0
      have HNE : Hid (some wr.heap.size ≠ (Value.slice A2 G.length c2).ownBlock) := fun e => by have := (HB.out.1.block_lt _ e.symm).2; omega
      have HW := Lib.hid (And.intro (show Own (wr.alloc (.cells x.cells 46)) w1.heap.size 9 encS (.slice A2 G.length c2) G from HB.out.1.alloc _) (show Below w1.heap.size w1 (wr.alloc (.cells x.cells 46)) from HB.out.2.1.alloc HB.out.2.1.size _))
      clear hx0
      obtain ⟨hF1, hF3⟩ := hFI
      have hFI : I64 F := ⟨hF1, hF3⟩
      by_cases hnd : need ≤ F
      · have dn : decide (need ≤ F) = true := decide_eq_true hnd
        have HST : Hid (Stops o well need k) := ⟨hk, HB.out.2.2, Or.inr (by rw [HF2.out]; exact hnd)⟩
        clear hnd
        go_wp2_with fail
        (try rw [Exit.noGoto_ret])
        go_ret3
        exact GivesCol.mk' HOE.out HST.out HG.out rfl (HW.out.1.mono HOR.out.2.size) (HOR.out.2.trans (HW.out.2.mono HOR.out.2.size))
      · have dn : decide (need ≤ F) = false := decide_eq_false hnd
        have HRUN : Hid (∀ i, i < k + 1 → (colG o well i).2 < need) := fun i hi => by
          by_cases hik : i = k
          · subst hik; rw [HF2.out]; omega
          · exact HB.out.2.2 i (by omega)
        clear hnd
        by_cases hkw : k < well.length
        · obtain ⟨b2, off2, hCe, hb2, hw0⟩ := ((HV.out.below HOR.out.2).below HW.out.2).bo hkw
          subst hCe
          have dw : decide ((well.length : Int) ≤ (k : Int)) = false := decide_eq_false (by omega)
          have dw2 : (k : Int) < (well.length : Int) := by omega
          have hok : okW well k = well[k] := by unfold okW; rw [List.getElem?_eq_getElem hkw]
          cases hwk : well[k]
          · rw [hwk] at hw0 hok
            have HOK := Lib.hid hok
            have HN := Lib.hid (col_no HG.out HX.out HOK.out)
            clear hok hwk
            go_wp2_with fail
            go_roundw
            case rel => exact ⟨k + 1, G, F, A2, c2, by omega, by go_num, HN.out, rfl, rfl, by go_num, HRUN.out, HW.out.1, HW.out.2⟩
            case measure => simp [intOf]; omega
          · rw [hwk] at hw0 hok
            have HOK := Lib.hid hok
            clear hok hwk
            have HY := Lib.hid (col_yes HG.out HX.out HOK.out)
            have hrm := Rds.made (wr.alloc (.cells x.cells 46)) encS [x.name] 9 #[.string x.name] (0, 0) rfl
            have hz1 : (wr.alloc (.cells x.cells 46)).heap.size = wr.heap.size + 1 := by first | rfl | simp
            rw [hz1] at hrm
            have HO1 := Lib.hid (And.intro (HW.out.1.alloc (.cells #[.string x.name] 9)) (And.intro (HW.out.2.alloc HW.out.2.size (.cells #[.string x.name] 9)) hrm))
            clear hrm hz1
            go_wp2_with (at_builtin; refine wl_app elemS encS rfl (.tmp 40) (.tmp 43) rfl w1.heap.size _ G rfl HO1.out.1 _ [x.name] 1 rfl HO1.out.2.2 (by simp; omega) (by simp; omega) HO1.out.2.1.size ?_; intro A3 k3 w3 hown3 hgrow3 _; have hbel3 := HO1.out.1.belowGrown HO1.out.2.1 hgrow3 (Nat.le_refl _) HO1.out.2.1.size; have hbx3 := ((Blk.new wr 46 x.cells).alloc (.cells #[.string x.name] 9)).grown hgrow3 HNE.out; have cx3 := hbx3.cell; clear hbx3; have HX3 := Lib.hid (And.intro hown3 hbel3); clear hown3 hgrow3 hbel3)
            refine (add_any F x.size _ hFI hxI).mono ?_; rintro e w4 ⟨rfl, rfl⟩
            have hl1 : G.length + [x.name].length = (G ++ [x.name]).length := (List.length_append).symm
            have hx3 := HX3.out.1
            rw [hl1] at hx3
            go_wp2_with fail
            go_roundw
            case rel => exact ⟨k + 1, G ++ [x.name], satAdd F x.size, A3, k3, by omega, by go_num, HY.out, by first | rfl | (rw [← hl1]; rfl), rfl, by go_num, HRUN.out, hx3, HX3.out.2⟩
            case measure => simp [intOf]; omega
        · have dw : decide ((well.length : Int) ≤ (k : Int)) = true := decide_eq_true (by omega)
          have HOK : Hid (okW well k = true) := by show _ = _; unfold okW; rw [List.getElem?_eq_none (by omega)]
          have HY := Lib.hid (col_yes HG.out HX.out HOK.out)
          have hrm := Rds.made (wr.alloc (.cells x.cells 46)) encS [x.name] 9 #[.string x.name] (0, 0) rfl
          have hz1 : (wr.alloc (.cells x.cells 46)).heap.size = wr.heap.size + 1 := by first | rfl | simp
          rw [hz1] at hrm
          have HO1 := Lib.hid (And.intro (HW.out.1.alloc (.cells #[.string x.name] 9)) (And.intro (HW.out.2.alloc HW.out.2.size (.cells #[.string x.name] 9)) hrm))
          clear hrm hz1
          go_wp2_with (at_builtin; refine wl_app elemS encS rfl (.tmp 40) (.tmp 43) rfl w1.heap.size _ G rfl HO1.out.1 _ [x.name] 1 rfl HO1.out.2.2 (by simp; omega) (by simp; omega) HO1.out.2.1.size ?_; intro A3 k3 w3 hown3 hgrow3 _; have hbel3 := HO1.out.1.belowGrown HO1.out.2.1 hgrow3 (Nat.le_refl _) HO1.out.2.1.size; have hbx3 := ((Blk.new wr 46 x.cells).alloc (.cells #[.string x.name] 9)).grown hgrow3 HNE.out; have cx3 := hbx3.cell; clear hbx3; have HX3 := Lib.hid (And.intro hown3 hbel3); clear hown3 hgrow3 hbel3)
          refine (add_any F x.size _ hFI hxI).mono ?_; rintro e w4 ⟨rfl, rfl⟩
          have hl1 : G.length + [x.name].length = (G ++ [x.name]).length := (List.length_append).symm
          have hx3 := HX3.out.1
          rw [hl1] at hx3
          go_wp2_with fail
          go_roundw
          case rel => exact ⟨k + 1, G ++ [x.name], satAdd F x.size, A3, k3, by omega, by go_num, HY.out, by first | rfl | (rw [← hl1]; rfl), rfl, by go_num, HRUN.out, hx3, HX3.out.2⟩
          case measure => simp [intOf]; omega
    · obtain rfl : k = o.length := by omega
      have dk : decide ((o.length : Int) < (o.length : Int)) = false := by simp
      have HST : Hid (Stops o well need o.length) := ⟨hk, HB.out.2.2, Or.inl rfl⟩
      go_wp2_with fail
      (try rw [Exit.noGoto_ret])
      go_ret3
      exact GivesCol.mk' HOE.out HST.out HG.out rfl (HB.out.1.mono HOR.out.2.size) (HOR.out.2.trans (HB.out.2.1.mono HOR.out.2.size))
end Go.Proofs.Ytfaklhdafpbkmaa
