/- More plain laws of who goes: the first that is asked stays just if it fits; those that go wouldn't fit; the best of a list. -/
import Derived.Test.YtlhmhcidknadmaaDoorVSame
import Derived.Test.YtlhmhcidknadmaaDoorVHas
namespace Go.Proofs.YtlhmhcidknadmaaDoor
open Go.RowKit

theorem mem_hasD {l : List ByteArray} {s : ByteArray} : hasD l s = true ↔ s ∈ l := by
  unfold hasD
  rw [List.any_eq_true]
  constructor
  · rintro ⟨x, hx, h⟩
    rw [← toList_injV h]
    exact hx
  · intro h
    exact ⟨s, h, by simp⟩
theorem hasD_no {l : List ByteArray} {s : ByteArray} (h : s ∉ l) : hasD l s = false := by
  cases e : hasD l s
  · rfl
  · exact absurd (mem_hasD.1 e) h
theorem hasD_perm {l m : List ByteArray} (h : l.Perm m) (s : ByteArray) : hasD l s = hasD m s := by
  rw [Bool.eq_iff_iff, mem_hasD, mem_hasD]
  exact h.mem_iff
/-- of a list, who is first of those that q takes; below 0: none -/
def BestAt (q : Pd → Bool) (l : List Pd) (k : Nat) (best : Int) : Prop :=
  (best = -1 ∧ ∀ i (hi : i < l.length), i < k → q l[i] = false) ∨
  ∃ (j : Nat) (hj : j < l.length), best = j ∧ j < k ∧ q l[j] = true ∧ ∀ i (hi : i < l.length), i < k → q l[i] = true → vlt l[i] l[j] = false
theorem BestAt.start (q : Pd → Bool) (l : List Pd) : BestAt q l 0 (-1) := .inl ⟨rfl, fun i _ h => by omega⟩
theorem BestAt.skip {q : Pd → Bool} {l : List Pd} {k : Nat} {best : Int} (hk : k < l.length) (h : BestAt q l k best) (hq : q l[k] = false) : BestAt q l (k + 1) best := by
  rcases h with ⟨rfl, h⟩ | ⟨j, hj, rfl, hjk, hqj, h⟩
  · refine .inl ⟨rfl, fun i hi h2 => ?_⟩
    rcases Nat.lt_or_ge i k with h3 | h3
    · exact h i hi h3
    · obtain rfl : i = k := by omega
      exact hq
  · refine .inr ⟨j, hj, rfl, by omega, hqj, fun i hi h2 hqi => ?_⟩
    rcases Nat.lt_or_ge i k with h3 | h3
    · exact h i hi h3 hqi
    · obtain rfl : i = k := by omega
      rw [hq] at hqi; cases hqi
theorem BestAt.first {q : Pd → Bool} {l : List Pd} {k : Nat} (hk : k < l.length) (h : BestAt q l k (-1)) (hq : q l[k] = true) : BestAt q l (k + 1) k := by
  rcases h with ⟨_, h⟩ | ⟨j, hj, e, _⟩
  · refine .inr ⟨k, hk, rfl, by omega, hq, fun i hi h2 hqi => ?_⟩
    rcases Nat.lt_or_ge i k with h3 | h3
    · rw [h i hi h3] at hqi; cases hqi
    · obtain rfl : i = k := by omega
      exact vlt_irrefl _
  · omega
theorem BestAt.better {q : Pd → Bool} {l : List Pd} {k j : Nat} (hk : k < l.length) (hj : j < l.length) (h : BestAt q l k j) (hq : q l[k] = true) (hv : vlt l[k] l[j] = true) : BestAt q l (k + 1) k := by
  rcases h with ⟨e, h⟩ | ⟨j', hj', e, hjk, hqj, h⟩
  · omega
  · obtain rfl : j = j' := by omega
    refine .inr ⟨k, hk, rfl, by omega, hq, fun i hi h2 hqi => ?_⟩
    rcases Nat.lt_or_ge i k with h3 | h3
    · cases hc : vlt l[i] l[k]
      · rfl
      · have := vlt_trans hc hv; rw [h i hi h3 hqi] at this; cases this
    · obtain rfl : i = k := by omega
      exact vlt_irrefl _
theorem BestAt.worse {q : Pd → Bool} {l : List Pd} {k j : Nat} (hk : k < l.length) (hj : j < l.length) (h : BestAt q l k j) (hv : vlt l[k] l[j] = false) : BestAt q l (k + 1) j := by
  rcases h with ⟨e, h⟩ | ⟨j', hj', e, hjk, hqj, h⟩
  · omega
  · obtain rfl : j = j' := by omega
    refine .inr ⟨j, hj, rfl, by omega, hqj, fun i hi h2 hqi => ?_⟩
    rcases Nat.lt_or_ge i k with h3 | h3
    · exact h i hi h3 hqi
    · obtain rfl : i = k := by omega
      exact hv
theorem BestAt.none_ {q : Pd → Bool} {l : List Pd} (h : BestAt q l l.length (-1)) : l.filter q = [] := by
  rcases h with ⟨_, h⟩ | ⟨j, hj, e, _⟩
  · refine List.filter_eq_nil_iff.2 fun x hx => ?_
    obtain ⟨i, hi, rfl⟩ := List.getElem_of_mem hx
    rw [h i hi hi]; simp
  · omega
theorem BestAt.head {q : Pd → Bool} {l K : List Pd} {j : Nat} (hi : ∀ x ∈ l, ∀ y ∈ l, x.id = y.id → x = y) (hj : j < l.length) (h : BestAt q l l.length j) (hk : K.Perm (l.filter q)) (hs : K.Pairwise fun x y => vlt y x = false) : q l[j] = true ∧ ∃ K', K = l[j] :: K' := by
  rcases h with ⟨e, h⟩ | ⟨j', hj', e, hjk, hqj, h⟩
  · omega
  · obtain rfl : j = j' := by omega
    refine ⟨hqj, ?_⟩
    have hm : l[j] ∈ K := hk.symm.subset (List.mem_filter.2 ⟨List.getElem_mem hj, hqj⟩)
    cases K with
    | nil => simp at hm
    | cons x K' =>
      have hx := List.mem_filter.1 (hk.subset (List.mem_cons_self (a := x) (l := K')))
      obtain ⟨i, hi2, rfl⟩ := List.getElem_of_mem hx.1
      have h1 := h i hi2 hi2 hx.2
      have h2 : vlt l[j] l[i] = false := by
        rcases List.mem_cons.1 hm with h3 | h3
        · rw [h3]; exact vlt_irrefl _
        · exact (List.pairwise_cons.1 hs).1 _ h3
      have := hi _ (List.getElem_mem hi2) _ (List.getElem_mem hj) (vlt_tie h1 h2).2
      exact ⟨K', by rw [this]⟩
/-- the one that is asked first stays just if it fits -/
theorem chooseD_first {room : S3} {K st : List Pd} {v : Pd} (hi : ∀ y ∈ K, y.id ≠ v.id) : hasD (chooseD room st (v :: K)).2 v.id = !fitsB room (st ++ [v]) := by
  unfold chooseD
  split
  · rename_i hv
    rw [hv]
    obtain ⟨g, h1, _, h3, _⟩ := chooseD_ids room K (st ++ [v])
    rw [h1]
    refine hasD_no fun h => ?_
    obtain ⟨y, hy, e⟩ := List.mem_map.1 h
    exact hi y (h3.subset hy) e
  · rename_i hv
    rw [Bool.not_eq_true] at hv
    rw [hv]
    exact mem_hasD.2 (by simp)
/-- what stayed stays -/
theorem chooseD_more (room : S3) (ks : List Pd) : ∀ st : List Pd, ∃ T, (chooseD room st ks).1 = st ++ T := by
  induction ks with
  | nil => intro st; exact ⟨[], by simp [chooseD]⟩
  | cons v ks ih =>
    intro st
    unfold chooseD
    split
    · obtain ⟨T, h⟩ := ih (st ++ [v])
      exact ⟨v :: T, by rw [h]; simp⟩
    · exact ih st
/-- who stays, who goes: with any one of those that go it wouldn't fit -/
theorem chooseD_over (room : S3) (ks : List Pd) : ∀ st : List Pd, ∃ gone : List Pd, (chooseD room st ks).2 = gone.map Pd.id ∧ ((chooseD room st ks).1 ++ gone).Perm (st ++ ks) ∧ gone.Sublist ks ∧ (fitsB room st = true → fitsB room (chooseD room st ks).1 = true) ∧ ∀ g ∈ gone, fitsB room ((chooseD room st ks).1 ++ [g]) = false := by
  induction ks with
  | nil => intro st; exact ⟨[], rfl, by simp [chooseD], List.Sublist.refl _, fun h => h, by simp⟩
  | cons v ks ih =>
    intro st
    unfold chooseD
    split
    · rename_i hv
      obtain ⟨g, h1, h2, h3, h4, h5⟩ := ih (st ++ [v])
      exact ⟨g, h1, by simpa using h2, h3.cons v, fun _ => h4 hv, h5⟩
    · rename_i hv
      obtain ⟨g, h1, h2, h3, h4, h5⟩ := ih st
      refine ⟨v :: g, by simp [h1], ?_, h3.cons_cons v, h4, fun x hx => ?_⟩
      · exact List.perm_middle.trans ((h2.cons v).trans List.perm_middle.symm)
      · rcases List.mem_cons.1 hx with rfl | hx
        · obtain ⟨T, hT⟩ := chooseD_more room ks st
          show fitsB room ((chooseD room st ks).1 ++ [x]) = false
          cases hc : fitsB room ((chooseD room st ks).1 ++ [x])
          · rfl
          · refine absurd ?_ hv
            rw [hT] at hc
            have hp : (st ++ T ++ [x]).Perm ((st ++ [x]) ++ T) := by
              rw [List.append_assoc, List.append_assoc]
              exact (List.perm_append_comm).append_left st
            rw [fitsB_perm hp] at hc
            exact fitsB_left hc
        · exact h5 x hx
/-- who is left of the list, with the pod, where those that go are told by their Ids -/
theorem left_perm {l F G : List Pd} {p : Pd} (hi : ∀ x ∈ l ++ [p], ∀ y ∈ l ++ [p], x.id = y.id → x = y) (hn : (l ++ [p]).Nodup) (hp : (F ++ G).Perm (l ++ [p])) (hg : p ∉ G) (O : List ByteArray) (ho : ∀ s, s ∈ O ↔ s ∈ G.map Pd.id) : ((l.filter fun x => !hasD O x.id) ++ [p]).Perm F := by
  have hnd : (F ++ G).Nodup := hp.nodup_iff.2 hn
  have hG : ∀ x ∈ l ++ [p], (hasD O x.id = true ↔ x ∈ G) := fun x hx => by
    rw [mem_hasD, ho]
    constructor
    · intro h
      obtain ⟨y, hy, e⟩ := List.mem_map.1 h
      rw [← hi y (hp.subset (by simp [hy])) x hx e]
      exact hy
    · intro h; exact List.mem_map.2 ⟨x, h, rfl⟩
  have hpp : (!hasD O p.id) = true := by
    cases e : hasD O p.id
    · rfl
    · exact absurd ((hG p (by simp)).1 e) hg
  have e1 : (l.filter fun x => !hasD O x.id) ++ [p] = (l ++ [p]).filter fun x => !hasD O x.id := by
    rw [List.filter_append]
    congr 1
    rw [List.filter_cons, hpp]
    rfl
  rw [e1]
  refine (hp.symm.filter _).trans ?_
  rw [List.filter_append]
  have e2 : F.filter (fun x => !hasD O x.id) = F := List.filter_eq_self.2 fun x hx => by
    cases e : hasD O x.id
    · rfl
    · have := (hG x (hp.subset (by simp [hx]))).1 e
      exact absurd rfl ((List.nodup_append.1 hnd).2.2 x hx x this)
  have e3 : G.filter (fun x => !hasD O x.id) = [] := List.filter_eq_nil_iff.2 fun x hx => by
    rw [(hG x (hp.subset (by simp [hx]))).2 hx]; simp
  rw [e2, e3, List.append_nil]
theorem FitV.injP {room : S3} {l : List Pd} {p : Pd} (h : FitV room l p) : ∀ x ∈ l ++ [p], ∀ y ∈ l ++ [p], x.id = y.id → x = y := fun x hx y hy e => by
  have hne : ∀ x ∈ l, x.id ≠ p.id := fun x hx => by
    obtain ⟨i, hi, rfl⟩ := List.getElem_of_mem hx
    exact (h.ok i hi hi).n
  rcases List.mem_append.1 hx with h1 | h1 <;> rcases List.mem_append.1 hy with h2 | h2
  · exact h.inj x h1 y h2 e
  · rw [List.mem_singleton.1 h2] at e; exact absurd e (hne x h1)
  · rw [List.mem_singleton.1 h1] at e; exact absurd e.symm (hne y h2)
  · rw [List.mem_singleton.1 h1, List.mem_singleton.1 h2]
theorem FitV.ids {room : S3} {l : List Pd} {p : Pd} (h : FitV room l p) : (l.map Pd.id).Nodup := by
  rw [List.nodup_iff_pairwise_ne, List.pairwise_iff_getElem]
  intro i j hi hj hij
  simp only [List.length_map] at hi hj
  rw [List.getElem_map, List.getElem_map]
  exact (h.ok j hj hj).d i hij
theorem FitV.nodup {room : S3} {l : List Pd} {p : Pd} (h : FitV room l p) : l.Nodup := by
  have h1 := h.ids
  rw [List.nodup_iff_pairwise_ne, List.pairwise_map] at h1
  rw [List.nodup_iff_pairwise_ne]
  exact h1.imp fun h e => h (by rw [e])
theorem FitV.nodupP {room : S3} {l : List Pd} {p : Pd} (h : FitV room l p) : (l ++ [p]).Nodup := by
  rw [List.nodup_append]
  refine ⟨h.nodup, by simp, fun x hx y hy e => ?_⟩
  rw [List.mem_singleton.1 hy] at e
  subst e
  obtain ⟨i, hi, e⟩ := List.getElem_of_mem hx
  exact (h.ok i hi hi).n (by rw [e])
end Go.Proofs.YtlhmhcidknadmaaDoor
