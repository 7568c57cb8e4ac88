/- The plain laws of SweepLeast, SweepOldest, SweepFails. -/
import Derived.Test.YtfaklhdafpbkmaaLawSweepCollects
import Derived.Test.YtfaklhdafpbkmaaPlaceI
namespace Go.Proofs.Ytfaklhdafpbkmaa
open Go.RowKit

def sumI : List Im → Int
  | [] => 0
  | x :: l => x.size + sumI l
theorem sumI_append (a b : List Im) : sumI (a ++ b) = sumI a + sumI b := by
  induction a with
  | nil => simp [sumI]
  | cons x a ih => simp only [List.cons_append, sumI, ih]; omega
theorem sumI_snoc {o : List Im} {k : Nat} (hk : k < o.length) : sumI (o.take (k + 1)) = sumI (o.take k) + o[k].size := by
  rw [List.take_succ_eq_append_getElem hk, sumI_append]; simp [sumI]
theorem sumI_bd {o : List Im} (hs : ∀ x ∈ o, 0 ≤ x.size ∧ x.size ≤ 1000000000000) : ∀ k, k ≤ o.length → 0 ≤ sumI (o.take k) ∧ sumI (o.take k) ≤ k * 1000000000000
  | 0, _ => by simp [sumI]
  | k + 1, hk => by
    have ih := sumI_bd hs k (by omega)
    have h := hs o[k] (List.getElem_mem (by omega))
    rw [sumI_snoc (by omega)]
    omega
theorem okW_nil (k : Nat) : okW [] k = true := rfl
theorem colG_nil1 {o : List Im} : ∀ k, k ≤ o.length → (colG o [] k).1 = (o.take k).map Im.name
  | 0, _ => rfl
  | k + 1, hk => by
    rw [colG_yes (x := o[k]'(by omega)) (List.getElem?_eq_getElem (by omega)) (okW_nil k), List.take_succ_eq_append_getElem (by omega), List.map_append]
    rw [colG_nil1 k (by omega)]; rfl
theorem colG_nil2 {o : List Im} (hs : ∀ x ∈ o, 0 ≤ x.size ∧ x.size ≤ 1000000000000) (hl : o.length ≤ 60) : ∀ k, k ≤ o.length → (colG o [] k).2 = sumI (o.take k)
  | 0, _ => by simp [colG, sumI]
  | k + 1, hk => by
    rw [colG_yes (x := o[k]'(by omega)) (List.getElem?_eq_getElem (by omega)) (okW_nil k)]
    have ih := colG_nil2 hs hl k (by omega)
    have b := sumI_bd hs k (by omega)
    have h := hs o[k] (List.getElem_mem (by omega))
    rw [sumI_snoc (by omega)]
    simp only [ih]
    have e1 : nat0 (sumI (o.take k)) = sumI (o.take k) := by unfold nat0; rw [if_neg (by omega)]
    have e2 : nat0 o[k].size = o[k].size := by unfold nat0; rw [if_neg (by omega)]
    have e3 : most = 9223372036854775807 := rfl
    unfold satAdd
    rw [e1, e2, if_pos (by omega)]
theorem orderOf_free {l : List Im} {used : List ByteArray} {x : Im} (h : x ∈ orderOf l used) : hasB used x.name = false := by
  have := (List.mem_filter.1 ((List.mergeSort_perm _ imLe).mem_iff.1 h)).2
  unfold isFree at this
  simpa using this
theorem orderOf_len_eq (l : List Im) (used : List ByteArray) : (orderOf l used).length = (l.filter (isFree used)).length := by
  unfold orderOf; exact sortIm_len _
theorem mem_orderOf {l : List Im} {used : List ByteArray} {x : Im} (hx : x ∈ l) (h : hasB used x.name = false) : x ∈ orderOf l used := by
  unfold orderOf sortIm
  refine (List.mergeSort_perm _ imLe).mem_iff.2 (List.mem_filter.2 ⟨hx, ?_⟩)
  unfold isFree; rw [h]; rfl
theorem orderOf_last {l : List Im} (used : List ByteArray) {i k : Nat} (hk : k < (orderOf l used).length) (hik : i < k) : ((orderOf l used)[i]'(by omega)).last ≤ (orderOf l used)[k].last := by
  have hs := List.pairwise_iff_getElem.1 (List.pairwise_mergeSort imLe_trans imLe_total (l.filter (isFree used))) i k (by have : k < _ := hk; unfold orderOf sortIm at this; omega) hk hik
  have hs : imLe ((orderOf l used)[i]'(by omega)) (orderOf l used)[k] = true := hs
  generalize (orderOf l used)[i]'(by omega) = x at *
  generalize (orderOf l used)[k] = y at *
  unfold imLe at hs
  have : ¬ (imlt y x = true) := by simpa using hs
  rw [imlt_iff] at this
  omega
theorem im_inj {l : List Im} (hn : (l.map Im.name).Nodup) {x y : Im} (hx : x ∈ l) (hy : y ∈ l) (h : x.name = y.name) : x = y := by
  obtain ⟨i, hi, rfl⟩ := List.getElem_of_mem hx
  obtain ⟨j, hj, rfl⟩ := List.getElem_of_mem hy
  have hp := List.pairwise_iff_getElem.1 (List.pairwise_map.1 hn)
  rcases Nat.lt_trichotomy i j with hlt | rfl | hlt
  · exact absurd h (hp i j hi hj hlt)
  · rfl
  · exact absurd h.symm (hp j i hj hi hlt)
/-- what goes, where all goes well -/
structure Went (l : List Im) (used : List ByteArray) (need : Int) (o : List Im) (K : Nat) (G : List ByteArray) (F : Int) : Prop where
  eo : o = orderOf l used
  st : Stops o [] need K
  eG : G = (o.take K).map Im.name
  eF : F = (colG o [] K).2
theorem Went.of {l : List Im} {used : List ByteArray} {need : Int} {K : Nat} {G : List ByteArray} {F : Int} (h : CG (orderOf l used) [] need K G F) : Went l used need (orderOf l used) K G F :=
  ⟨rfl, h.st, by have e := h.eq; have : G = (colG (orderOf l used) [] K).1 := by rw [← e]
                 rw [this, colG_nil1 K h.st.le], by have e := h.eq; rw [← e]⟩
section
variable {l : List Im} {used : List ByteArray} {need : Int} {o : List Im} {K : Nat} {G : List ByteArray} {F : Int}
theorem Went.len (h : Went l used need o K G F) : G.length = K := by rw [h.eG, List.length_map, List.length_take]; have := h.st.le; omega
theorem Went.olen (h : Went l used need o K G F) : o.length ≤ l.length := by rw [h.eo]; exact orderOf_len l used
theorem Went.kle (h : Went l used need o K G F) : K ≤ o.length := h.st.le
/-- image i of those that went: where it stands, and that it isn't used -/
theorem Went.at_ (h : Went l used need o K G F) (hn : (l.map Im.name).Nodup) {i : Nat} (hi : i < G.length) : ∃ (j : Nat) (hj : j < l.length) (hio : i < o.length), l[j] = o[i] ∧ placeOf l G[i] = (j : Int) ∧ hasB used G[i] = false := by
  have hk := h.len
  have hK := h.kle
  have hm : o[i]'(by omega) ∈ orderOf l used := by have := List.getElem_mem (l := o) (n := i) (by omega); rw [← h.eo]; exact this
  obtain ⟨j, hj, e⟩ := List.getElem_of_mem (orderOf_mem hm)
  have hG : G[i] = (o[i]'(by omega)).name := by
    have := h.eG
    subst this
    simp
  refine ⟨j, hj, by omega, e, ?_, ?_⟩
  · rw [hG, ← e]; exact placeOf_at hn hj
  · rw [hG]; exact orderOf_free hm
theorem Went.free (h : Went l used need o K G F) : (l.filter (isFree used)).length = o.length := by rw [h.eo, orderOf_len_eq]
theorem Went.sum (h : Went l used need o K G F) (hs : ∀ x ∈ l, 0 ≤ x.size ∧ x.size ≤ 1000000000000) (hl : l.length ≤ 60) : F = sumI (o.take K) := by
  have hl2 := h.olen
  rw [h.eF, colG_nil2 (fun x hx => hs x (by rw [h.eo] at hx; exact orderOf_mem hx)) (by omega) K h.kle]
theorem Went.enough (h : Went l used need o K G F) : need ≤ F ∨ K = o.length := by
  rcases h.st.stop with h1 | h1
  · exact Or.inr h1
  · exact Or.inl (by rw [h.eF]; exact h1)
theorem Went.least (h : Went l used need o K G F) (hs : ∀ x ∈ l, 0 ≤ x.size ∧ x.size ≤ 1000000000000) (hl : l.length ≤ 60) {k : Nat} (hk : k < K) : sumI (o.take k) < need := by
  have hl2 := h.olen
  have hK := h.kle
  rw [← colG_nil2 (fun x hx => hs x (by rw [h.eo] at hx; exact orderOf_mem hx)) (by omega) k (by omega)]
  exact h.st.run k hk
/-- what stays and isn't used was not used ahead of what goes -/
theorem Went.later (h : Went l used need o K G F) {i j : Nat} (hi : i < G.length) (hio : i < o.length) (hj : j < l.length) (hu : hasB used l[j].name = false) (hg : hasB G l[j].name = false) : o[i].last ≤ l[j].last := by
  have hk := h.len
  have hm := mem_orderOf (List.getElem_mem hj) hu
  rw [← h.eo] at hm
  obtain ⟨q, hq, e⟩ := List.getElem_of_mem hm
  have hqK : K ≤ q := by
    rcases Nat.lt_or_ge q K with hlt | hge
    · exfalso
      have : hasB G l[j].name = true := by
        rw [hasB_mem, h.eG, List.mem_map]
        exact ⟨l[j], by rw [← e]; exact List.mem_take_iff_getElem.2 ⟨q, by omega, rfl⟩, rfl⟩
      rw [this] at hg; cases hg
    · exact hge
  have ho := h.eo
  have := orderOf_last (l := l) used (i := i) (k := q) (by rw [← ho]; exact hq) (by omega)
  subst ho
  rw [← e]; exact this
theorem Went.none (h : Went l used need o K G F) (hn : need ≤ 0) : K = 0 := by
  rcases Nat.eq_zero_or_pos K with h0 | h0
  · exact h0
  · have := h.st.run 0 h0
    simp [colG] at this
    omega
end
/-- where all fail -/
theorem okW_rep {n k : Nat} (hk : k < n) : okW (List.replicate n false) k = false := by
  unfold okW; rw [List.getElem?_replicate_of_lt hk]
theorem colG_rep {o : List Im} {n : Nat} (hn : o.length ≤ n) : ∀ k, k ≤ o.length → colG o (List.replicate n false) k = ([], 0)
  | 0, _ => rfl
  | k + 1, hk => by
    rw [colG_no (x := o[k]'(by omega)) (List.getElem?_eq_getElem (by omega)) (okW_rep (by omega))]
    exact colG_rep hn k (by omega)
theorem fails_of {o : List Im} {n : Nat} (hn : o.length ≤ n) {need : Int} {K : Nat} {G : List ByteArray} {F : Int} (h : CG o (List.replicate n false) need K G F) : G = [] ∧ F = 0 ∧ (need ≤ 0 → K = 0) ∧ (0 < need → K = o.length) := by
  have e := h.eq
  rw [colG_rep hn K h.st.le] at e
  injection e with e1 e2
  refine ⟨e1, e2, fun h0 => ?_, fun h0 => ?_⟩
  · rcases Nat.eq_zero_or_pos K with h1 | h1
    · exact h1
    · have := h.st.run 0 h1
      rw [colG_rep hn 0 (by omega)] at this
      simp at this
      omega
  · rcases h.st.stop with h1 | h1
    · exact h1
    · rw [colG_rep hn K h.st.le] at h1
      simp at h1
      omega
theorem rightIB_pos {l : List Im} (h : rightIB l = true) {x : Im} (hx : x ∈ l) : 0 ≤ x.size := by
  obtain ⟨i, hi, rfl⟩ := List.getElem_of_mem hx
  have hk := List.all_eq_true.1 h i (List.mem_range.2 hi)
  unfold okIm at hk
  rw [List.getElem?_eq_getElem hi] at hk
  simp only [Bool.and_eq_true, decide_eq_true_eq] at hk
  exact hk.1.1
theorem has_v (l : List ByteArray) (s : ByteArray) (b : Bool) (hb : hasB l s = b) (A : Option Addr) (c : Nat) (w : World) (hr : Rds w encS A l) (hm : l.length ≤ 9223372036854775807) :
    Calls Try.prog 27 #[.slice A l.length c, .string s] w fun e w' => e = .returned (.bool b) ∧ w = w' :=
  (has_any l s A c w hr hm).mono fun _ _ h => ⟨by rw [h.1, hb], h.2⟩
theorem place_v (l : List Im) (s : ByteArray) (z : Int) (hz : placeOf l s = z) (A : Option Addr) (c : Nat) (w : World) (hr : Rds w encI A l) (hm : l.length ≤ 9223372036854775807) :
    Calls Try.prog 33 #[.slice A l.length c, .string s] w fun e w' => e = .returned (.int .i64 z) ∧ w = w' :=
  (place_any l s A c w hr hm).mono fun _ _ h => ⟨by rw [h.1, hz], h.2⟩
end Go.Proofs.Ytfaklhdafpbkmaa
