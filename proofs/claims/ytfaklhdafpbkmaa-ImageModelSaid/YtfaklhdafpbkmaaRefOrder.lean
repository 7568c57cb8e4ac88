/- The reference's Order: the one that goes first of those that are left, again and again. -/
import Derived.Test.YtfaklhdafpbkmaaImgOrder
import Derived.StillTailTactics
namespace Go.Proofs.Ytfaklhdafpbkmaa
open Go.RowKit

def imLe (x y : Im) : Bool := !imlt y x
theorem imLe_trans (a b c : Im) (h1 : imLe a b = true) (h2 : imLe b c = true) : imLe a c = true := by
  unfold imLe at *
  have := swoI.ntrans c b a (by rw [cfI_lt]; simpa using h2) (by rw [cfI_lt]; simpa using h1)
  rw [cfI_lt] at this
  rw [this]; rfl
theorem imLe_total (a b : Im) : (imLe a b || imLe b a) = true := by
  unfold imLe
  cases h : imlt b a
  · rfl
  · cases h2 : imlt a b
    · rfl
    · have := imlt_trans h h2; rw [imlt_irrefl] at this; cases this
theorem imLe_antisymm {a b : Im} (h1 : imLe a b = true) (h2 : imLe b a = true) : a = b := by
  unfold imLe at *
  exact imlt_total (by simpa using h2) (by simpa using h1)
/-- in the order in which they go -/
def sortIm (l : List Im) : List Im := l.mergeSort imLe
def orderOf (l : List Im) (used : List ByteArray) : List Im := sortIm (l.filter (isFree used))
theorem sortIm_eq {l S : List Im} (hp : S.Perm l) (hs : S.Pairwise fun x y => imLe x y = true) : S = sortIm l :=
  List.Perm.eq_of_pairwise (le := fun x y => imLe x y = true) (fun _ _ _ _ h1 h2 => imLe_antisymm h1 h2) hs (List.pairwise_mergeSort imLe_trans imLe_total _) (hp.trans (List.mergeSort_perm l imLe).symm)
theorem order_eq {l S : List Im} {used : List ByteArray} (h : SortedFree l used S) : S = orderOf l used :=
  sortIm_eq h.1 (h.2.imp fun {x y} h => by unfold imLe; rw [h]; rfl)
theorem sortIm_len (l : List Im) : (sortIm l).length = l.length := (List.mergeSort_perm l imLe).length_eq
theorem dropOf_perm {L : List Im} (hn : (L.map Im.name).Nodup) {j : Nat} (hj : j < L.length) : (L[j] :: dropOf L[j].name L).Perm L := by
  have hnd : L.Nodup := by
    unfold List.Nodup at *
    exact List.Pairwise.of_map Im.name (fun a b h e => h (by rw [e])) hn
  have hinj : ∀ x ∈ L, ∀ y ∈ L, x.name = y.name → x = y := by
    intro x hx y hy he
    obtain ⟨a, ha, rfl⟩ := List.getElem_of_mem hx
    obtain ⟨b, hb, rfl⟩ := List.getElem_of_mem hy
    unfold List.Nodup at hn
    rw [List.pairwise_map, List.pairwise_iff_getElem] at hn
    rcases Nat.lt_trichotomy a b with hab | hab | hab
    · exact absurd he (hn a b ha hb hab)
    · subst hab; rfl
    · exact absurd he.symm (hn b a hb ha hab)
  have hd : (dropOf L[j].name L).Nodup := filter_nodup' _ hnd
  rw [List.perm_ext_iff_of_nodup]
  · intro x
    rw [List.mem_cons]
    unfold dropOf
    rw [List.mem_filter]
    constructor
    · rintro (rfl | ⟨h, _⟩)
      · exact List.getElem_mem hj
      · exact h
    · intro hx
      by_cases he : x.name = L[j].name
      · left; exact hinj x hx _ (List.getElem_mem hj) he
      · right
        refine ⟨hx, ?_⟩
        rw [bne_iff_ne]
        intro h
        exact he (toList_inj (by rw [h]; simp))
  · rw [List.nodup_cons]
    refine ⟨fun h => ?_, hd⟩
    unfold dropOf at h
    rw [List.mem_filter] at h
    simp at h
  · exact hnd
where filter_nodup' {α : Type} {l : List α} (f : α → Bool) (h : l.Nodup) : (l.filter f).Nodup := List.Pairwise.filter f h
theorem dropOf_nodup {L : List Im} (s : ByteArray) (hn : (L.map Im.name).Nodup) : ((dropOf s L).map Im.name).Nodup := hn.sublist ((List.filter_sublist).map _)
theorem sortIm_min {L : List Im} (hn : (L.map Im.name).Nodup) {j : Nat} (hj : j < L.length) (hmin : ∀ i (hi : i < L.length), imlt L[i] L[j] = false) : L[j] :: sortIm (dropOf L[j].name L) = sortIm L := by
  refine sortIm_eq ?_ ?_
  · exact ((List.mergeSort_perm _ imLe).cons _).trans (dropOf_perm hn hj)
  · rw [List.pairwise_cons]
    refine ⟨fun y hy => ?_, List.pairwise_mergeSort imLe_trans imLe_total _⟩
    have hy' := (List.mergeSort_perm _ imLe).mem_iff.1 hy
    obtain ⟨i, hi, rfl⟩ := List.getElem_of_mem (List.mem_filter.1 hy').1
    unfold imLe
    rw [hmin i hi]; rfl

theorem apart_nil (v : Value) : v.ownBlock = none ∨ v.ownBlock ≠ (Value.slice none 0 0).ownBlock := by
  cases h : v.ownBlock
  · exact Or.inl rfl
  · right; simp [Value.ownBlock]
theorem own_apart {w3 w4 : World} {b1 b2 : Nat} {e1 e2 : TypeId} {α β : Type} {s1 s2 : Nat} {E1 : Enc α s1} {E2 : Enc β s2} {v1 v2 : Value} {l1 : List α} {l2 : List β} (h1 : Own w4 b1 e1 E1 v1 l1) (h2 : Own w3 b2 e2 E2 v2 l2) (hb : w3.heap.size ≤ b1) : v1.ownBlock = none ∨ v1.ownBlock ≠ v2.ownBlock := by
  cases h : v1.ownBlock with
  | none => exact Or.inl rfl
  | some g =>
    right
    intro e
    have a := (h1.block_lt g h).1
    have b := (h2.block_lt g e.symm).2
    omega
/-- of the first k images the one that goes first stands at j -/
def MinTo (L : List Im) (k j : Nat) : Prop := ∀ i x y, i < k → L[i]? = some x → L[j]? = some y → imlt x y = false
theorem MinTo.one (L : List Im) : MinTo L 1 0 := fun i x y hi hx hy => by
  have : i = 0 := by omega
  subst this
  rw [hx] at hy; injection hy with hy; subst hy; exact imlt_irrefl _
theorem MinTo.keep {L : List Im} {k j : Nat} {x y : Im} (h : MinTo L k j) (hx : L[k]? = some x) (hy : L[j]? = some y) (hlt : imlt x y = false) : MinTo L (k + 1) j := fun i u v hi hu hv => by
  by_cases hik : i = k
  · subst hik; rw [hx] at hu; injection hu with hu; rw [hy] at hv; injection hv with hv; subst hu; subst hv; exact hlt
  · exact h i u v (by omega) hu hv
theorem MinTo.turn {L : List Im} {k j : Nat} {x y : Im} (h : MinTo L k j) (hx : L[k]? = some x) (hy : L[j]? = some y) (hlt : imlt x y = true) : MinTo L (k + 1) k := fun i u v hi hu hv => by
  rw [hx] at hv; injection hv with hv; subst hv
  by_cases hik : i = k
  · subst hik; rw [hx] at hu; injection hu with hu; subst hu; exact imlt_irrefl _
  · cases hux : imlt u x
    · rfl
    · have := imlt_trans hux hlt
      rw [h i u y (by omega) hu hy] at this; cases this
def lenV : Value → Nat
  | .slice _ n _ => n
  | _ => 0
def GivesIs (P : List Im → Prop) (w : World) (e : Ending) (w' : World) : Prop := ∃ S, P S ∧ GivesIms S w e w'

set_option maxRecDepth 100000 in
set_option maxHeartbeats 4000000 in
theorem refOrder_any (l : List Im) (pods : List ByteArray) (A B : Option Addr) (c d : Nat) (w : World) (hr : Rds w encI A l) (hs : Rds w encS B pods) (hl : l.length ≤ 100000) (hm : pods.length ≤ 9223372036854775807) (hn : (l.map Im.name).Nodup) :
    Calls Try.prog 45 #[.slice A l.length c, .slice B pods.length d] w (GivesIms (orderOf l pods) w) := by
  have HR := Lib.hid hr
  have HS := Lib.hid hs
  have HND := Lib.hid hn
  clear hr hs hn
  go_enter Try.func45, Try.ntmps45
  go_wp2_with fail
  go_loopw [5, 6] (fun b i wr => ∃ (k : Nat) (m : List Im) (A' : Option Addr) (c' : Nat), k ≤ l.length ∧ i = .int .i64 k ∧ m = (l.take k).filter (isFree pods) ∧ b = .slice A' m.length c' ∧ Own wr w.heap.size 46 encI (.slice A' m.length c') m ∧ Below w.heap.size w wr) (fun _ i _ => l.length - (intOf i).toNat)
  case atStart => exact ⟨0, [], none, 0, by omega, rfl, rfl, rfl, Own.nil_ _ _ _ _, Below.refl _ _⟩
  case round =>
    obtain ⟨k, m, A', c', hk, rfl, hm', rfl, hO, hB⟩ := hrel
    have HM := Lib.hid hm'
    have HB := Lib.hid (And.intro hO hB)
    have hml : m.length ≤ 100000 := by rw [hm']; have := List.length_filter_le (isFree pods) (l.take k); rw [List.length_take] at this; omega
    clear hm' hO hB
    by_cases hlt : k < l.length
    · obtain ⟨b, off, rfl, hb, hc0, hc1, hc2⟩ := (HR.out.below HB.out.2).im hlt
      have dk : decide ((k : Int) < (l.length : Int)) = true := decide_eq_true (by omega)
      have dk2 : (k : Int) < (l.length : Int) := by omega
      have hyes := filter1_yes (isFree pods) l k hlt
      have hno := filter1_no (isFree pods) l k hlt
      have hdef : isFree pods l[k] = !hasB pods l[k].name := rfl
      generalize l[k] = x at *
      have HY := Lib.hid (And.intro hyes (And.intro hno hdef))
      clear hyes hno hdef
      go_wp2_with fail
      refine (has_any pods x.name B d _ (HS.out.below HB.out.2) hm).mono ?_; rintro e w1 ⟨rfl, rfl⟩
      cases hhas : hasB pods x.name
      · have HN := Lib.hid (HY.out.1 (by rw [HY.out.2.2, hhas]; rfl))
        have HO1 : Hid (Own (wr.alloc (.cells x.cells 46)) w.heap.size 46 encI (.slice A' m.length c') m ∧ Below w.heap.size w (wr.alloc (.cells x.cells 46)) ∧ Rds (wr.alloc (.cells x.cells 46)) encI (some ⟨wr.heap.size, 0, none⟩) [x]) := ⟨HB.out.1.alloc _, HB.out.2.alloc HB.out.2.size _, Rds.made wr encI [x] 46 x.cells (0, 0) rfl⟩
        clear hhas
        go_wp2_with (at_builtin; refine wl_app elemI encI rfl (.tmp 25) (.tmp 30) rfl w.heap.size _ m rfl HO1.out.1 _ [x] 1 rfl HO1.out.2.2 (by simp; omega) (by simp; omega) HO1.out.2.1.size ?_; intro A3 k3 w3 hown3 hgrow3 _; have hbel3 := HO1.out.1.belowGrown HO1.out.2.1 hgrow3 (Nat.le_refl _) HO1.out.2.1.size; have HX3 := Lib.hid (And.intro hown3 hbel3); clear hown3 hgrow3 hbel3)
        have hl1 : m.length + [x].length = (m ++ [x]).length := (List.length_append).symm
        have hx3 := HX3.out.1
        rw [hl1] at hx3
        go_roundw
        case rel => exact ⟨k + 1, m ++ [x], A3, k3, by omega, by go_num, by rw [HN.out]; exact congrArg (· ++ [x]) HM.out, by first | rfl | (rw [← hl1]; rfl), hx3, HX3.out.2⟩
        case measure => simp [intOf]; omega
      · have HN := Lib.hid (HY.out.2.1 (by rw [HY.out.2.2, hhas]; rfl))
        clear hhas
        go_wp2_with fail
        go_roundw
        case rel => exact ⟨k + 1, m, A', c', by omega, by go_num, by rw [HN.out]; exact HM.out, rfl, HB.out.1, HB.out.2⟩
        case measure => simp [intOf]; omega
    · obtain rfl : k = l.length := by omega
      have dk : decide ((l.length : Int) < (l.length : Int)) = false := by simp
      have hmm : m = l.filter (isFree pods) := by have := HM.out; rwa [List.take_length] at this
      have HO : Hid (orderOf l pods = sortIm m ∧ (m.map Im.name).Nodup) := ⟨by rw [hmm]; rfl, by rw [hmm]; exact HND.out.sublist ((List.filter_sublist).map _)⟩
      clear hmm HM HND
      go_wp2_with fail
      go_loopw [5, 7] (fun b o wr => ∃ (L O : List Im) (A1 A2 : Option Addr) (c1 c2 : Nat), b = .slice A1 L.length c1 ∧ o = .slice A2 O.length c2 ∧ L.length ≤ 100000 ∧ O.length + L.length ≤ 100000 ∧ (L.map Im.name).Nodup ∧ orderOf l pods = O ++ sortIm L ∧ Own wr w.heap.size 46 encI (.slice A1 L.length c1) L ∧ Own wr w.heap.size 46 encI (.slice A2 O.length c2) O ∧ ((Value.slice A1 L.length c1).ownBlock = none ∨ (Value.slice A1 L.length c1).ownBlock ≠ (Value.slice A2 O.length c2).ownBlock) ∧ Below w.heap.size w wr) (fun b _ _ => lenV b)
      case atStart => exact ⟨m, [], A', none, c', 0, rfl, rfl, hml, by simpa using hml, HO.out.2, by rw [HO.out.1]; rfl, HB.out.1, Own.nil_ _ _ _ _, apart_nil _, HB.out.2⟩
      case round =>
        clear HB HO
        obtain ⟨L, O, A1, A2, c1, c2, rfl, rfl, hL, hOL, hnd, hord, hown1, hown2, hne, hB⟩ := hrel
        by_cases hL0 : L = []
        · subst hL0
          have hO' : orderOf l pods = O := by rw [hord]; unfold sortIm; simp
          have HO' := Lib.hid hO'
          clear hord hO'
          have HH := Lib.hid (And.intro hown2 hB)
          clear hown1 hown2 hne hB hnd
          go_wp2_with fail
          go_ret
          exact ⟨A2, c2, by rw [HO'.out]; rfl, by rw [HO'.out]; exact HH.out.1, HH.out.2⟩
        · have hpos : 0 < L.length := List.length_pos_iff.2 hL0
          have d0 : decide ((0 : Int) < (L.length : Int)) = true := decide_eq_true (by omega)
          have d0n : decide (0 < L.length) = true := decide_eq_true hpos
          have HH := Lib.hid (And.intro hown1 (And.intro hown2 (And.intro hne (And.intro hB (And.intro hnd hord)))))
          clear hown1 hown2 hne hB hnd hord hL0
          go_wp2_with fail
          obtain ⟨wo, hwo⟩ : ∃ wo : World, wo = wr := ⟨_, rfl⟩
          subst hwo
          go_loopw [8, 9] (fun bst i wq => ∃ j k : Nat, 1 ≤ k ∧ k ≤ L.length ∧ bst = .int .i64 j ∧ i = .int .i64 k ∧ j < k ∧ MinTo L k j ∧ Below wo.heap.size wo wq) (fun _ i _ => L.length - (intOf i).toNat)
          case atStart => exact ⟨0, 1, by omega, by omega, rfl, rfl, by omega, MinTo.one L, Below.refl _ _⟩
          case round =>
            obtain ⟨j, k, hk1, hk, rfl, rfl, hjk, hmin, hBq⟩ := hrel
            have HM := Lib.hid hmin
            have HQ := Lib.hid hBq
            clear hmin hBq
            have hjl : j < L.length := by omega
            obtain ⟨b, off, rfl, hb, hj0, hj1, hj2⟩ := (HH.out.1.toRds.below HQ.out).im hjl
            have hyj := List.getElem?_eq_getElem hjl
            by_cases hlt : k < L.length
            · obtain ⟨b', off', e, hb', hc0, hc1, hc2⟩ := (HH.out.1.toRds.below HQ.out).im hlt
              injection e with e
              injection e with e1 e2
              subst e1
              subst e2
              have hxk := List.getElem?_eq_getElem hlt
              have dk : decide ((k : Int) < (L.length : Int)) = true := decide_eq_true (by omega)
              have dk2 : (k : Int) < (L.length : Int) := by omega
              have dk3 : (j : Int) < (L.length : Int) := by omega
              generalize L[k] = x at *
              generalize L[j] = y at *
              have HX := Lib.hid (And.intro hxk hyj)
              clear hxk hyj
              go_wp2_with fail
              refine wp_region_still_tail 8 (by kernel_rfl) (by kernel_rfl) ?_
              simp only [List.take_succ_cons, List.take_zero, List.drop_succ_cons, List.drop_zero]
              obtain ⟨Wd, hWd⟩ : ∃ Wd : World, Wd = wr.drew := ⟨_, rfl⟩
              have k0 : Wd.cell? ⟨b, off + k * 3, none⟩ = some (.string x.name) := by rw [hWd]; exact hc0
              have k1 : Wd.cell? ⟨b, off + k * 3 + 1, none⟩ = some (.int .i64 x.size) := by rw [hWd]; exact hc1
              have k2 : Wd.cell? ⟨b, off + k * 3 + 2, none⟩ = some (.int .i64 x.last) := by rw [hWd]; exact hc2
              have k3 : Wd.cell? ⟨b, off + j * 3, none⟩ = some (.string y.name) := by rw [hWd]; exact hj0
              have k4 : Wd.cell? ⟨b, off + j * 3 + 1, none⟩ = some (.int .i64 y.size) := by rw [hWd]; exact hj1
              have k5 : Wd.cell? ⟨b, off + j * 3 + 2, none⟩ = some (.int .i64 y.last) := by rw [hWd]; exact hj2
              have HQd : Hid (Below wo.heap.size wo Wd) := by show Below wo.heap.size wo Wd; rw [hWd]; exact HQ.out.drew
              have e0 : wr.drew = Wd := hWd.symm
              unfold World.drew at e0
              rw [e0]
              clear hWd e0 hc0 hc1 hc2 hj0 hj1 hj2
              repeat still_step
              refine wpStill_nil ?_
              go_wp2_with fail
              refine (refAhead_any x y _).mono ?_; rintro e w2 ⟨rfl, hb2⟩
              have HQ2 := Lib.hid (HQd.out.trans (hb2.mono HQd.out.size))
              clear hb2 k0 k1 k2 k3 k4 k5
              cases hlt2 : imlt x y
              · have HN := Lib.hid (HM.out.keep HX.out.1 HX.out.2 hlt2)
                clear hlt2
                go_wp2_with fail
                go_roundw
                case rel => exact ⟨j, k + 1, by omega, by omega, rfl, by go_num, by omega, HN.out, HQ2.out⟩
                case measure => simp [intOf]; omega
              · have HN := Lib.hid (HM.out.turn HX.out.1 HX.out.2 hlt2)
                clear hlt2
                go_wp2_with fail
                go_roundw
                case rel => exact ⟨k, k + 1, by omega, by omega, rfl, by go_num, by omega, HN.out, HQ2.out⟩
                case measure => simp [intOf]; omega
            · obtain rfl : k = L.length := by omega
              have dk : decide ((L.length : Int) < (L.length : Int)) = false := by simp
              have dk3 : (j : Int) < (L.length : Int) := by omega
              have hsm : L[j] :: sortIm (dropOf L[j].name L) = sortIm L := sortIm_min HH.out.2.2.2.2.1 hjl fun i hi => HM.out i _ _ hi (List.getElem?_eq_getElem hi) (List.getElem?_eq_getElem hjl)
              have hdl : (dropOf L[j].name L).length + 1 = L.length := by have := (dropOf_perm HH.out.2.2.2.2.1 hjl).length_eq; rw [List.length_cons] at this; exact this
              clear hyj
              generalize L[j] = x at *
              have HSM := Lib.hid hsm
              clear hsm
              have hbx := Blk.new wr 46 x.cells
              have hz1 : (wr.alloc (.cells x.cells 46)).heap.size = wr.heap.size + 1 := by simp
              have hrm := Rds.made (wr.alloc (.cells x.cells 46)) encI [x] 46 x.cells (0, 0) rfl
              rw [hz1] at hrm
              have hO2 := HH.out.2.1.below HQ.out (Nat.le_refl _)
              have hL2 := HH.out.1.below HQ.out (Nat.le_refl _)
              have hB2 := HH.out.2.2.2.1.trans (HQ.out.mono HH.out.2.2.2.1.size)
              have hgx : some wr.heap.size ≠ (Value.slice A2 O.length c2).ownBlock := fun e => by have := (hO2.block_lt _ e.symm).2; omega
              have HW := Lib.hid (And.intro ((hO2.alloc (.cells x.cells 46)).alloc (.cells x.cells 46)) (And.intro ((hL2.alloc (.cells x.cells 46)).alloc (.cells x.cells 46)) (And.intro ((hB2.alloc hB2.size (.cells x.cells 46)).alloc (by have := hB2.size; simp; omega) (.cells x.cells 46)) (And.intro hrm (And.intro (hbx.alloc (.cells x.cells 46)) hgx)))))
              clear hbx hz1 hrm hO2 hL2 hB2 hgx HQ HM
              go_wp2_with (at_builtin; refine wl_app elemI encI rfl (.tmp 55) (.tmp 57) rfl w.heap.size _ O rfl HW.out.1 _ [x] 1 rfl HW.out.2.2.2.1 (by simp; omega) (by simp; omega) HW.out.2.2.1.size ?_; intro A3 k3 w3 hown3 hgrow3 _; have hbel3 := HW.out.1.belowGrown HW.out.2.2.1 hgrow3 (Nat.le_refl _) HW.out.2.2.1.size; have hL3 := HW.out.2.1.grown hgrow3 HH.out.2.2.1; have hx3 := HW.out.2.2.2.2.1.grown hgrow3 HW.out.2.2.2.2.2; have cx3 := hx3.cell; have HX3 := Lib.hid (And.intro hown3 (And.intro hbel3 hL3)); clear hown3 hgrow3 hbel3 hL3 hx3)
              refine (refDrop_any L x.name _ c1 w3 HX3.out.2.2.toRds hL).mono ?_; rintro e w4 ⟨A5, c5, rfl, hO5, hB5⟩
              have hl1 : O.length + [x].length = (O ++ [x]).length := (List.length_append).symm
              have hx4 := HX3.out.1
              rw [hl1] at hx4
              have HF := Lib.hid (And.intro (hO5.mono HX3.out.2.1.size) (And.intro (hx4.below hB5 (Nat.le_refl _)) (And.intro (own_apart hO5 hx4 (Nat.le_refl _)) (HX3.out.2.1.trans (hB5.mono HX3.out.2.1.size)))))
              clear hO5 hB5 hx4 cx3
              go_wp2_with fail
              go_roundw
              case rel => exact ⟨dropOf x.name L, O ++ [x], A5, A3, c5, k3, rfl, by first | rfl | (rw [← hl1]; rfl), by omega, by rw [← hl1]; simp; omega, dropOf_nodup _ HH.out.2.2.2.2.1, by rw [HH.out.2.2.2.2.2, ← HSM.out, List.append_assoc]; rfl, HF.out.1, HF.out.2.1, HF.out.2.2.1, HF.out.2.2.2⟩
              case measure => simp [lenV]; omega
end Go.Proofs.Ytfaklhdafpbkmaa
