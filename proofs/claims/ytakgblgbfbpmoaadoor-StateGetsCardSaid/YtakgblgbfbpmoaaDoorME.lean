/- Several texts in one: More plain laws of who goes: the first that is asked stays just if it fits; those that go wouldn't fit; the best of a list. bilgeref21.Fixed: those that may not go for a pod, and the pod. bilgeref21.next: of those that may go and weren't asked, the one that is asked first. bilgeref21.put: texts, rising, one more. Who goes, as a relation of the list's contents alone: the same of all lists of the same pods. bilgeref21.Choose: the same pods go. admit.Decide: who is admitted. -/
import Derived.Test.YtakgblgbfbpmoaaDoorMD
import Derived.Test.YtakgblgbfbpmoaaDoorMC
namespace Go.Proofs.YtakgblgbfbpmoaaDoor
open Go.RowKit

theorem mem_hasD {l : List ByteArray} {s : ByteArray} : hasD l s = true ↔ s ∈ l := by
  unfold hasD
  rw [List.any_eq_true]
  constructor
  · rintro ⟨x, hx, h⟩
    rw [← toList_injV h]
    exact hx
  · intro h
    exact ⟨s, h, by simp⟩
theorem hasD_no {l : List ByteArray} {s : ByteArray} (h : s ∉ l) : hasD l s = false := by
  cases e : hasD l s
  · rfl
  · exact absurd (mem_hasD.1 e) h
theorem hasD_perm {l m : List ByteArray} (h : l.Perm m) (s : ByteArray) : hasD l s = hasD m s := by
  rw [Bool.eq_iff_iff, mem_hasD, mem_hasD]
  exact h.mem_iff
/-- of a list, who is first of those that q takes; below 0: none -/
def BestAt (q : Pd → Bool) (l : List Pd) (k : Nat) (best : Int) : Prop :=
  (best = -1 ∧ ∀ i (hi : i < l.length), i < k → q l[i] = false) ∨
  ∃ (j : Nat) (hj : j < l.length), best = j ∧ j < k ∧ q l[j] = true ∧ ∀ i (hi : i < l.length), i < k → q l[i] = true → vlt l[i] l[j] = false
theorem BestAt.start (q : Pd → Bool) (l : List Pd) : BestAt q l 0 (-1) := .inl ⟨rfl, fun i _ h => by omega⟩
theorem BestAt.skip {q : Pd → Bool} {l : List Pd} {k : Nat} {best : Int} (hk : k < l.length) (h : BestAt q l k best) (hq : q l[k] = false) : BestAt q l (k + 1) best := by
  rcases h with ⟨rfl, h⟩ | ⟨j, hj, rfl, hjk, hqj, h⟩
  · refine .inl ⟨rfl, fun i hi h2 => ?_⟩
    rcases Nat.lt_or_ge i k with h3 | h3
    · exact h i hi h3
    · obtain rfl : i = k := by omega
      exact hq
  · refine .inr ⟨j, hj, rfl, by omega, hqj, fun i hi h2 hqi => ?_⟩
    rcases Nat.lt_or_ge i k with h3 | h3
    · exact h i hi h3 hqi
    · obtain rfl : i = k := by omega
      rw [hq] at hqi; cases hqi
theorem BestAt.first {q : Pd → Bool} {l : List Pd} {k : Nat} (hk : k < l.length) (h : BestAt q l k (-1)) (hq : q l[k] = true) : BestAt q l (k + 1) k := by
  rcases h with ⟨_, h⟩ | ⟨j, hj, e, _⟩
  · refine .inr ⟨k, hk, rfl, by omega, hq, fun i hi h2 hqi => ?_⟩
    rcases Nat.lt_or_ge i k with h3 | h3
    · rw [h i hi h3] at hqi; cases hqi
    · obtain rfl : i = k := by omega
      exact vlt_irrefl _
  · omega
theorem BestAt.better {q : Pd → Bool} {l : List Pd} {k j : Nat} (hk : k < l.length) (hj : j < l.length) (h : BestAt q l k j) (hq : q l[k] = true) (hv : vlt l[k] l[j] = true) : BestAt q l (k + 1) k := by
  rcases h with ⟨e, h⟩ | ⟨j', hj', e, hjk, hqj, h⟩
  · omega
  · obtain rfl : j = j' := by omega
    refine .inr ⟨k, hk, rfl, by omega, hq, fun i hi h2 hqi => ?_⟩
    rcases Nat.lt_or_ge i k with h3 | h3
    · cases hc : vlt l[i] l[k]
      · rfl
      · have := vlt_trans hc hv; rw [h i hi h3 hqi] at this; cases this
    · obtain rfl : i = k := by omega
      exact vlt_irrefl _
theorem BestAt.worse {q : Pd → Bool} {l : List Pd} {k j : Nat} (hk : k < l.length) (hj : j < l.length) (h : BestAt q l k j) (hv : vlt l[k] l[j] = false) : BestAt q l (k + 1) j := by
  rcases h with ⟨e, h⟩ | ⟨j', hj', e, hjk, hqj, h⟩
  · omega
  · obtain rfl : j = j' := by omega
    refine .inr ⟨j, hj, rfl, by omega, hqj, fun i hi h2 hqi => ?_⟩
    rcases Nat.lt_or_ge i k with h3 | h3
    · exact h i hi h3 hqi
    · obtain rfl : i = k := by omega
      exact hv
theorem BestAt.none_ {q : Pd → Bool} {l : List Pd} (h : BestAt q l l.length (-1)) : l.filter q = [] := by
  rcases h with ⟨_, h⟩ | ⟨j, hj, e, _⟩
  · refine List.filter_eq_nil_iff.2 fun x hx => ?_
    obtain ⟨i, hi, rfl⟩ := List.getElem_of_mem hx
    rw [h i hi hi]; simp
  · omega
theorem BestAt.head {q : Pd → Bool} {l K : List Pd} {j : Nat} (hi : ∀ x ∈ l, ∀ y ∈ l, x.id = y.id → x = y) (hj : j < l.length) (h : BestAt q l l.length j) (hk : K.Perm (l.filter q)) (hs : K.Pairwise fun x y => vlt y x = false) : q l[j] = true ∧ ∃ K', K = l[j] :: K' := by
  rcases h with ⟨e, h⟩ | ⟨j', hj', e, hjk, hqj, h⟩
  · omega
  · obtain rfl : j = j' := by omega
    refine ⟨hqj, ?_⟩
    have hm : l[j] ∈ K := hk.symm.subset (List.mem_filter.2 ⟨List.getElem_mem hj, hqj⟩)
    cases K with
    | nil => simp at hm
    | cons x K' =>
      have hx := List.mem_filter.1 (hk.subset (List.mem_cons_self (a := x) (l := K')))
      obtain ⟨i, hi2, rfl⟩ := List.getElem_of_mem hx.1
      have h1 := h i hi2 hi2 hx.2
      have h2 : vlt l[j] l[i] = false := by
        rcases List.mem_cons.1 hm with h3 | h3
        · rw [h3]; exact vlt_irrefl _
        · exact (List.pairwise_cons.1 hs).1 _ h3
      have := hi _ (List.getElem_mem hi2) _ (List.getElem_mem hj) (vlt_tie h1 h2).2
      exact ⟨K', by rw [this]⟩
/-- the one that is asked first stays just if it fits -/
theorem chooseD_first {room : S3} {K st : List Pd} {v : Pd} (hi : ∀ y ∈ K, y.id ≠ v.id) : hasD (chooseD room st (v :: K)).2 v.id = !fitsB room (st ++ [v]) := by
  unfold chooseD
  split
  · rename_i hv
    rw [hv]
    obtain ⟨g, h1, _, h3, _⟩ := chooseD_ids room K (st ++ [v])
    rw [h1]
    refine hasD_no fun h => ?_
    obtain ⟨y, hy, e⟩ := List.mem_map.1 h
    exact hi y (h3.subset hy) e
  · rename_i hv
    rw [Bool.not_eq_true] at hv
    rw [hv]
    exact mem_hasD.2 (by simp)
/-- what stayed stays -/
theorem chooseD_more (room : S3) (ks : List Pd) : ∀ st : List Pd, ∃ T, (chooseD room st ks).1 = st ++ T := by
  induction ks with
  | nil => intro st; exact ⟨[], by simp [chooseD]⟩
  | cons v ks ih =>
    intro st
    unfold chooseD
    split
    · obtain ⟨T, h⟩ := ih (st ++ [v])
      exact ⟨v :: T, by rw [h]; simp⟩
    · exact ih st
/-- who stays, who goes: with any one of those that go it wouldn't fit -/
theorem chooseD_over (room : S3) (ks : List Pd) : ∀ st : List Pd, ∃ gone : List Pd, (chooseD room st ks).2 = gone.map Pd.id ∧ ((chooseD room st ks).1 ++ gone).Perm (st ++ ks) ∧ gone.Sublist ks ∧ (fitsB room st = true → fitsB room (chooseD room st ks).1 = true) ∧ ∀ g ∈ gone, fitsB room ((chooseD room st ks).1 ++ [g]) = false := by
  induction ks with
  | nil => intro st; exact ⟨[], rfl, by simp [chooseD], List.Sublist.refl _, fun h => h, by simp⟩
  | cons v ks ih =>
    intro st
    unfold chooseD
    split
    · rename_i hv
      obtain ⟨g, h1, h2, h3, h4, h5⟩ := ih (st ++ [v])
      exact ⟨g, h1, by simpa using h2, h3.cons v, fun _ => h4 hv, h5⟩
    · rename_i hv
      obtain ⟨g, h1, h2, h3, h4, h5⟩ := ih st
      refine ⟨v :: g, by simp [h1], ?_, h3.cons_cons v, h4, fun x hx => ?_⟩
      · exact List.perm_middle.trans ((h2.cons v).trans List.perm_middle.symm)
      · rcases List.mem_cons.1 hx with rfl | hx
        · obtain ⟨T, hT⟩ := chooseD_more room ks st
          show fitsB room ((chooseD room st ks).1 ++ [x]) = false
          cases hc : fitsB room ((chooseD room st ks).1 ++ [x])
          · rfl
          · refine absurd ?_ hv
            rw [hT] at hc
            have hp : (st ++ T ++ [x]).Perm ((st ++ [x]) ++ T) := by
              rw [List.append_assoc, List.append_assoc]
              exact (List.perm_append_comm).append_left st
            rw [fitsB_perm hp] at hc
            exact fitsB_left hc
        · exact h5 x hx
/-- who is left of the list, with the pod, where those that go are told by their Ids -/
theorem left_perm {l F G : List Pd} {p : Pd} (hi : ∀ x ∈ l ++ [p], ∀ y ∈ l ++ [p], x.id = y.id → x = y) (hn : (l ++ [p]).Nodup) (hp : (F ++ G).Perm (l ++ [p])) (hg : p ∉ G) (O : List ByteArray) (ho : ∀ s, s ∈ O ↔ s ∈ G.map Pd.id) : ((l.filter fun x => !hasD O x.id) ++ [p]).Perm F := by
  have hnd : (F ++ G).Nodup := hp.nodup_iff.2 hn
  have hG : ∀ x ∈ l ++ [p], (hasD O x.id = true ↔ x ∈ G) := fun x hx => by
    rw [mem_hasD, ho]
    constructor
    · intro h
      obtain ⟨y, hy, e⟩ := List.mem_map.1 h
      rw [← hi y (hp.subset (by simp [hy])) x hx e]
      exact hy
    · intro h; exact List.mem_map.2 ⟨x, h, rfl⟩
  have hpp : (!hasD O p.id) = true := by
    cases e : hasD O p.id
    · rfl
    · exact absurd ((hG p (by simp)).1 e) hg
  have e1 : (l.filter fun x => !hasD O x.id) ++ [p] = (l ++ [p]).filter fun x => !hasD O x.id := by
    rw [List.filter_append]
    congr 1
    rw [List.filter_cons, hpp]
    rfl
  rw [e1]
  refine (hp.symm.filter _).trans ?_
  rw [List.filter_append]
  have e2 : F.filter (fun x => !hasD O x.id) = F := List.filter_eq_self.2 fun x hx => by
    cases e : hasD O x.id
    · rfl
    · have := (hG x (hp.subset (by simp [hx]))).1 e
      exact absurd rfl ((List.nodup_append.1 hnd).2.2 x hx x this)
  have e3 : G.filter (fun x => !hasD O x.id) = [] := List.filter_eq_nil_iff.2 fun x hx => by
    rw [(hG x (hp.subset (by simp [hx]))).2 hx]; simp
  rw [e2, e3, List.append_nil]
theorem FitV.injP {room : S3} {l : List Pd} {p : Pd} (h : FitV room l p) : ∀ x ∈ l ++ [p], ∀ y ∈ l ++ [p], x.id = y.id → x = y := fun x hx y hy e => by
  have hne : ∀ x ∈ l, x.id ≠ p.id := fun x hx => by
    obtain ⟨i, hi, rfl⟩ := List.getElem_of_mem hx
    exact (h.ok i hi hi).n
  rcases List.mem_append.1 hx with h1 | h1 <;> rcases List.mem_append.1 hy with h2 | h2
  · exact h.inj x h1 y h2 e
  · rw [List.mem_singleton.1 h2] at e; exact absurd e (hne x h1)
  · rw [List.mem_singleton.1 h1] at e; exact absurd e.symm (hne y h2)
  · rw [List.mem_singleton.1 h1, List.mem_singleton.1 h2]
theorem FitV.ids {room : S3} {l : List Pd} {p : Pd} (h : FitV room l p) : (l.map Pd.id).Nodup := by
  rw [List.nodup_iff_pairwise_ne, List.pairwise_iff_getElem]
  intro i j hi hj hij
  simp only [List.length_map] at hi hj
  rw [List.getElem_map, List.getElem_map]
  exact (h.ok j hj hj).d i hij
theorem FitV.nodup {room : S3} {l : List Pd} {p : Pd} (h : FitV room l p) : l.Nodup := by
  have h1 := h.ids
  rw [List.nodup_iff_pairwise_ne, List.pairwise_map] at h1
  rw [List.nodup_iff_pairwise_ne]
  exact h1.imp fun h e => h (by rw [e])
theorem FitV.nodupP {room : S3} {l : List Pd} {p : Pd} (h : FitV room l p) : (l ++ [p]).Nodup := by
  rw [List.nodup_append]
  refine ⟨h.nodup, by simp, fun x hx y hy e => ?_⟩
  rw [List.mem_singleton.1 hy] at e
  subst e
  obtain ⟨i, hi, e⟩ := List.getElem_of_mem hx
  exact (h.ok i hi hi).n (by rw [e])
end Go.Proofs.YtakgblgbfbpmoaaDoor

namespace Go.Proofs.YtakgblgbfbpmoaaDoor
open Go.RowKit

def fixD (p : Pd) (l : List Pd) : List Pd := (l.filter fun v => !mayV p v) ++ [p]
def fixT (p : Pd) (l : List Pd) : List Pd := l.filter fun v => !mayV p v
theorem fixT_snoc (p : Pd) (l : List Pd) (v : Pd) : fixT p (l ++ [v]) = fixT p l ++ (if mayV p v then [] else [v]) := by
  unfold fixT
  rw [List.filter_append]
  congr 1
  cases h : mayV p v <;> simp [h]
theorem fixT_len (p : Pd) (l : List Pd) : (fixT p l).length ≤ l.length := List.length_filter_le _ _
theorem fixD_stay (p : Pd) (l : List Pd) : (fixD p l).Perm (stayD p l) := List.perm_append_comm
structure GQ (p : Pd) (w W : World) : Prop where
  pb : Blk W (w.heap.size) 44 #[.string p.id, .int .i64 p.prio, .bool p.crit, .int .i64 p.q0, .int .i64 p.q1, .int .i64 p.q2, .int .i64 p.l0, .int .i64 p.l1, .int .i64 p.l2, .string p.image, .int .i64 p.size]
  bel : Below w.heap.size w W
theorem GQ.below {p : Pd} {w W W' : World} (h : GQ p w W) (hb : Below W.heap.size W W') : GQ p w W' := ⟨h.pb.belowAll hb, h.bel.trans (hb.mono h.bel.size)⟩
theorem GQ.alloc {p : Pd} {w W : World} (h : GQ p w W) (o : Obj) : GQ p w (W.alloc o) := ⟨h.pb.alloc o, h.bel.alloc h.bel.size o⟩
theorem GQ.drew {p : Pd} {w W : World} (h : GQ p w W) : GQ p w W.drew := ⟨h.pb.drew, h.bel.drew⟩
theorem GQ.new (p : Pd) (w : World) : GQ p w (w.alloc (.cells #[.string p.id, .int .i64 p.prio, .bool p.crit, .int .i64 p.q0, .int .i64 p.q1, .int .i64 p.q2, .int .i64 p.l0, .int .i64 p.l1, .int .i64 p.l2, .string p.image, .int .i64 p.size] 44)) := by
  have b0 := Blk.new w 44 #[.string p.id, .int .i64 p.prio, .bool p.crit, .int .i64 p.q0, .int .i64 p.q1, .int .i64 p.q2, .int .i64 p.l0, .int .i64 p.l1, .int .i64 p.l2, .string p.image, .int .i64 p.size]
  have bel : Below w.heap.size w (w.alloc (.cells #[.string p.id, .int .i64 p.prio, .bool p.crit, .int .i64 p.q0, .int .i64 p.q1, .int .i64 p.q2, .int .i64 p.l0, .int .i64 p.l1, .int .i64 p.l2, .string p.image, .int .i64 p.size] 44)) := (Below.refl w.heap.size w).alloc (Nat.le_refl _) _
  exact ⟨b0, bel⟩

end Go.Proofs.YtakgblgbfbpmoaaDoor

namespace Go.Proofs.YtakgblgbfbpmoaaDoor
open Go.RowKit

theorem BestAt.cases_ {q : Pd → Bool} {l : List Pd} {k : Nat} {z : Int} (h : BestAt q l k z) : z = -1 ∨ ∃ j, j < l.length ∧ z = (j : Int) := by
  rcases h with ⟨h, _⟩ | ⟨j, hj, h, _⟩
  · exact .inl h
  · exact .inr ⟨j, hj, h⟩
theorem vlt_no {x y : Pd} (h1 : ¬ y.prio < x.prio) (h2 : x.prio = y.prio → blt x.id y.id = false) : vlt x y = false := by
  cases h : vlt x y
  · rfl
  · rcases (vlt_iff x y).1 h with h3 | ⟨h3, h4⟩
    · exact absurd h3 h1
    · rw [h2 h3] at h4; cases h4
end Go.Proofs.YtakgblgbfbpmoaaDoor

namespace Go.Proofs.YtakgblgbfbpmoaaDoor
open Go.RowKit

def PutAt (s : ByteArray) (a r : List ByteArray) (d : Bool) (m : List ByteArray) : Prop :=
  (d = false ∧ m = a ∧ ∀ x ∈ a, blt s x = false) ∨ (d = true ∧ m.Perm (s :: a) ∧ (m.Pairwise fun x y => blt y x = false) ∧ ∀ x ∈ m, ∀ y ∈ r, blt y x = false)
theorem blt_asymmV {a b : ByteArray} (h : blt a b = true) : blt b a = false := by
  cases h2 : blt b a
  · rfl
  · have := blt_trans h h2; rw [blt_irrefl] at this; cases this
theorem gtV (a b : ByteArray) : (!Op.bytesLess a.toList b.toList && !a.toList == b.toList) = blt b a := by
  cases h : blt b a
  · cases h2 : Op.bytesLess a.toList b.toList
    · have e : a = b := blt_total h2 h
      subst e; simp
    · rfl
  · have h2 : Op.bytesLess a.toList b.toList = false := blt_asymmV h
    rw [h2]
    cases h3 : (a.toList == b.toList)
    · rfl
    · have e := toList_injV h3
      subst e; rw [blt_irrefl] at h; cases h
theorem PutAt.len {s : ByteArray} {a r m : List ByteArray} {d : Bool} (h : PutAt s a r d m) : m.length ≤ a.length + 1 := by
  rcases h with ⟨_, rfl, _⟩ | ⟨_, h, _⟩
  · omega
  · rw [h.length_eq]; simp
theorem PutAt.pass {s x : ByteArray} {a r m : List ByteArray} (h : PutAt s a (x :: r) false m) (hx : blt s x = false) : PutAt s (a ++ [x]) r false (m ++ [x]) := by
  rcases h with ⟨_, rfl, h⟩ | ⟨h, _⟩
  · refine .inl ⟨rfl, rfl, fun y hy => ?_⟩
    rcases List.mem_append.1 hy with h1 | h1
    · exact h y h1
    · rw [List.mem_singleton.1 h1]; exact hx
  · cases h
theorem PutAt.then_ {s x : ByteArray} {a r m : List ByteArray} (hs : (a ++ x :: r).Pairwise fun x y => blt y x = false) (h : PutAt s a (x :: r) true m) : PutAt s (a ++ [x]) r true (m ++ [x]) := by
  rcases h with ⟨h, _⟩ | ⟨_, hp, hm, hr⟩
  · cases h
  · have hxr := (List.pairwise_cons.1 (List.pairwise_append.1 hs).2.1).1
    refine .inr ⟨rfl, ?_, ?_, ?_⟩
    · exact (hp.append_right [x])
    · refine List.pairwise_append.2 ⟨hm, List.pairwise_singleton _ _, fun y hy z hz => ?_⟩
      rw [List.mem_singleton.1 hz]
      exact hr y hy x (by simp)
    · intro y hy z hz
      rcases List.mem_append.1 hy with h1 | h1
      · exact hr y h1 z (by simp [hz])
      · rw [List.mem_singleton.1 h1]; exact hxr z hz
theorem PutAt.here {s x : ByteArray} {a r m : List ByteArray} (hs : (a ++ x :: r).Pairwise fun x y => blt y x = false) (h : PutAt s a (x :: r) false m) (hx : blt s x = true) : PutAt s (a ++ [x]) r true ((m ++ [s]) ++ [x]) := by
  rcases h with ⟨_, rfl, ha⟩ | ⟨h, _⟩
  · obtain ⟨h1, h2, h3⟩ := List.pairwise_append.1 hs
    have hxr := (List.pairwise_cons.1 h2).1
    have hsr : ∀ y ∈ r, blt y s = false := fun y hy => by
      cases e : blt y s
      · rfl
      · have := blt_trans e hx; rw [hxr y hy] at this; cases this
    refine .inr ⟨rfl, ?_, ?_, ?_⟩
    · exact (List.perm_append_comm (l₁ := m) (l₂ := [s])).append_right [x]
    · refine List.pairwise_append.2 ⟨List.pairwise_append.2 ⟨h1, List.pairwise_singleton _ _, fun y hy z hz => ?_⟩, List.pairwise_singleton _ _, fun y hy z hz => ?_⟩
      · rw [List.mem_singleton.1 hz]; exact ha y hy
      · rw [List.mem_singleton.1 hz]
        rcases List.mem_append.1 hy with h4 | h4
        · exact h3 y h4 x (by simp)
        · rw [List.mem_singleton.1 h4]; exact blt_asymmV hx
    · intro y hy z hz
      rcases List.mem_append.1 hy with h4 | h4
      · rcases List.mem_append.1 h4 with h5 | h5
        · exact h3 y h5 z (by simp [hz])
        · rw [List.mem_singleton.1 h5]; exact hsr z hz
      · rw [List.mem_singleton.1 h4]; exact hxr z hz
  · cases h
theorem PutAt.done {s : ByteArray} {l m : List ByteArray} (h : PutAt s l [] true m) : m.Perm (s :: l) ∧ m.Pairwise fun x y => blt y x = false := by
  rcases h with ⟨h, _⟩ | ⟨_, h1, h2, _⟩
  · cases h
  · exact ⟨h1, h2⟩
theorem PutAt.last {s : ByteArray} {l m : List ByteArray} (hs : l.Pairwise fun x y => blt y x = false) (h : PutAt s l [] false m) : (m ++ [s]).Perm (s :: l) ∧ (m ++ [s]).Pairwise fun x y => blt y x = false := by
  rcases h with ⟨_, rfl, ha⟩ | ⟨h, _⟩
  · refine ⟨List.perm_append_comm (l₁ := m) (l₂ := [s]), List.pairwise_append.2 ⟨hs, List.pairwise_singleton _ _, fun y hy z hz => ?_⟩⟩
    rw [List.mem_singleton.1 hz]; exact ha y hy
  · cases h
end Go.Proofs.YtakgblgbfbpmoaaDoor

namespace Go.Proofs.YtakgblgbfbpmoaaDoor
open Go.RowKit

def WhoD (room : S3) (p : Pd) (l : List Pd) (O : List ByteArray) (b : Bool) : Prop :=
  ∃ K : List Pd, K.Perm (askD p l) ∧ (K.Pairwise fun x y => vlt y x = false) ∧ fitsB room (stayD p l) = b ∧ (b = true → O.Perm (chooseD room (stayD p l) K).2 ∧ O.Pairwise fun x y => blt y x = false) ∧ (b = false → O = [])
theorem WhoD.len {room : S3} {p : Pd} {l : List Pd} {O : List ByteArray} {b : Bool} (h : WhoD room p l O b) : O.length ≤ l.length := by
  obtain ⟨K, hk, _, _, h1, h2⟩ := h
  cases b
  · rw [h2 rfl]; simp
  · rw [(h1 rfl).1.length_eq]
    exact Nat.le_trans (chooseD_len _ _ _) (by rw [hk.length_eq]; exact askD_len p l)
theorem WhoD.same {room : S3} {p : Pd} {l m : List Pd} {O O' : List ByteArray} {b b' : Bool} (hi : ∀ x ∈ l, ∀ y ∈ l, x.id = y.id → x = y) (hp : l.Perm m) (h : WhoD room p l O b) (h' : WhoD room p m O' b') : O' = O ∧ b' = b := by
  obtain ⟨K, hk, hs, hf, h1, h2⟩ := h
  obtain ⟨K', hk', hs', hf', h1', h2'⟩ := h'
  have e : b' = b := by rw [← hf, ← hf', fitsB_perm (stayD_perm hp)]
  subst e
  refine ⟨?_, rfl⟩
  cases b'
  · rw [h2 rfl, h2' rfl]
  · exact gone_eq hi hp hk hs hk' hs' (h1 rfl).1 (h1 rfl).2 (h1' rfl).1 (h1' rfl).2
end Go.Proofs.YtakgblgbfbpmoaaDoor

namespace Go.Proofs.YtakgblgbfbpmoaaDoor
open Go.RowKit

theorem chooseD_snoc (room : S3) (v : Pd) (ks : List Pd) : ∀ st : List Pd, chooseD room st (ks ++ [v]) = if fitsB room ((chooseD room st ks).1 ++ [v]) = true then ((chooseD room st ks).1 ++ [v], (chooseD room st ks).2) else ((chooseD room st ks).1, (chooseD room st ks).2 ++ [v.id]) := by
  induction ks with
  | nil => intro st; by_cases h : fitsB room (st ++ [v]) = true <;> simp [chooseD, h]
  | cons k ks ih =>
    intro st
    rw [List.cons_append]
    unfold chooseD
    split
    · exact ih _
    · rw [ih]
      split <;> simp
theorem rest_asked {p : Pd} {l T R : List Pd} (hi : ∀ x ∈ l, ∀ y ∈ l, x.id = y.id → x = y) (hn : l.Nodup) (hk : (T ++ R).Perm (askD p l)) : R.Perm (l.filter fun v => mayV p v && !hasD (T.map Pd.id) v.id) := by
  have e : (l.filter fun v => mayV p v && !hasD (T.map Pd.id) v.id) = (askD p l).filter fun v => !hasD (T.map Pd.id) v.id := by
    unfold askD
    rw [List.filter_filter]
    congr 1
    funext v
    exact Bool.and_comm _ _
  rw [e]
  have hnd : (T ++ R).Nodup := hk.nodup_iff.2 (hn.filter _)
  have hin : ∀ x ∈ T ++ R, x ∈ l := fun x hx => (List.mem_filter.1 (hk.subset hx)).1
  refine .trans ?_ (hk.filter _)
  rw [List.filter_append]
  have e1 : T.filter (fun v => !hasD (T.map Pd.id) v.id) = [] := List.filter_eq_nil_iff.2 fun x hx => by
    rw [mem_hasD.2 (List.mem_map.2 ⟨x, hx, rfl⟩)]; simp
  have e2 : R.filter (fun v => !hasD (T.map Pd.id) v.id) = R := List.filter_eq_self.2 fun x hx => by
    rw [hasD_no fun h => ?_]
    · rfl
    · obtain ⟨y, hy, e⟩ := List.mem_map.1 h
      have := hi y (hin y (by simp [hy])) x (hin x (by simp [hx])) e
      subst this
      exact absurd rfl ((List.nodup_append.1 hnd).2.2 y hy y hx)
  rw [e1, e2, List.nil_append]
theorem spCells {room : S3} {p y : Pd} {l : List Pd} {b off j : Nat} {w W : World} (h : CQ room p w W) (hr : Rds W encP (some ⟨b, off, none⟩) l) (hj : l[j]? = some y) : W.cell? ⟨w.heap.size, 0, none⟩ = some (.int .i64 room.a) ∧ W.cell? ⟨w.heap.size, 1, none⟩ = some (.int .i64 room.b) ∧ W.cell? ⟨w.heap.size, 2, none⟩ = some (.int .i64 room.c) ∧ W.cell? ⟨w.heap.size + 1, 0, none⟩ = some (.string p.id) ∧ W.cell? ⟨w.heap.size + 1, 1, none⟩ = some (.int .i64 p.prio) ∧ W.cell? ⟨w.heap.size + 1, 2, none⟩ = some (.bool p.crit) ∧ W.cell? ⟨w.heap.size + 1, 3, none⟩ = some (.int .i64 p.q0) ∧ W.cell? ⟨w.heap.size + 1, 4, none⟩ = some (.int .i64 p.q1) ∧ W.cell? ⟨w.heap.size + 1, 5, none⟩ = some (.int .i64 p.q2) ∧ W.cell? ⟨w.heap.size + 1, 6, none⟩ = some (.int .i64 p.l0) ∧ W.cell? ⟨w.heap.size + 1, 7, none⟩ = some (.int .i64 p.l1) ∧ W.cell? ⟨w.heap.size + 1, 8, none⟩ = some (.int .i64 p.l2) ∧ W.cell? ⟨w.heap.size + 1, 9, none⟩ = some (.string p.image) ∧ W.cell? ⟨w.heap.size + 1, 10, none⟩ = some (.int .i64 p.size) ∧ W.cell? ⟨b, off + j * 11, none⟩ = some (.string y.id) ∧ W.cell? ⟨b, off + j * 11 + 1, none⟩ = some (.int .i64 y.prio) ∧ W.cell? ⟨b, off + j * 11 + 2, none⟩ = some (.bool y.crit) ∧ W.cell? ⟨b, off + j * 11 + 3, none⟩ = some (.int .i64 y.q0) ∧ W.cell? ⟨b, off + j * 11 + 4, none⟩ = some (.int .i64 y.q1) ∧ W.cell? ⟨b, off + j * 11 + 5, none⟩ = some (.int .i64 y.q2) ∧ W.cell? ⟨b, off + j * 11 + 6, none⟩ = some (.int .i64 y.l0) ∧ W.cell? ⟨b, off + j * 11 + 7, none⟩ = some (.int .i64 y.l1) ∧ W.cell? ⟨b, off + j * 11 + 8, none⟩ = some (.int .i64 y.l2) ∧ W.cell? ⟨b, off + j * 11 + 9, none⟩ = some (.string y.image) ∧ W.cell? ⟨b, off + j * 11 + 10, none⟩ = some (.int .i64 y.size) := by
  obtain ⟨q0, q1, q2, q3, q4, q5, q6, q7, q8, q9, q10⟩ := h.pb.pd
  obtain ⟨y0, y1, y2, y3, y4, y5, y6, y7, y8, y9, y10⟩ := hr.pdAt (Below.refl _ _) hj
  exact ⟨h.rm.cell 0, h.rm.cell 1, h.rm.cell 2, q0, q1, q2, q3, q4, q5, q6, q7, q8, q9, q10, y0, y1, y2, y3, y4, y5, y6, y7, y8, y9, y10⟩
theorem rpCells {room : S3} {p : Pd} {w W : World} (h : CQ room p w W) : W.cell? ⟨w.heap.size, 0, none⟩ = some (.int .i64 room.a) ∧ W.cell? ⟨w.heap.size, 1, none⟩ = some (.int .i64 room.b) ∧ W.cell? ⟨w.heap.size, 2, none⟩ = some (.int .i64 room.c) ∧ W.cell? ⟨w.heap.size + 1, 0, none⟩ = some (.string p.id) ∧ W.cell? ⟨w.heap.size + 1, 1, none⟩ = some (.int .i64 p.prio) ∧ W.cell? ⟨w.heap.size + 1, 2, none⟩ = some (.bool p.crit) ∧ W.cell? ⟨w.heap.size + 1, 3, none⟩ = some (.int .i64 p.q0) ∧ W.cell? ⟨w.heap.size + 1, 4, none⟩ = some (.int .i64 p.q1) ∧ W.cell? ⟨w.heap.size + 1, 5, none⟩ = some (.int .i64 p.q2) ∧ W.cell? ⟨w.heap.size + 1, 6, none⟩ = some (.int .i64 p.l0) ∧ W.cell? ⟨w.heap.size + 1, 7, none⟩ = some (.int .i64 p.l1) ∧ W.cell? ⟨w.heap.size + 1, 8, none⟩ = some (.int .i64 p.l2) ∧ W.cell? ⟨w.heap.size + 1, 9, none⟩ = some (.string p.image) ∧ W.cell? ⟨w.heap.size + 1, 10, none⟩ = some (.int .i64 p.size) := by
  obtain ⟨q0, q1, q2, q3, q4, q5, q6, q7, q8, q9, q10⟩ := h.pb.pd
  exact ⟨h.rm.cell 0, h.rm.cell 1, h.rm.cell 2, q0, q1, q2, q3, q4, q5, q6, q7, q8, q9, q10⟩
def sliceLen : Value → Nat
  | .slice _ n _ => n
  | _ => 0
/-- who was asked, who stays, who goes so far -/
structure Way (room : S3) (p : Pd) (l K T R S : List Pd) (O : List ByteArray) (z : Int) : Prop where
  k : K = T ++ R
  s : S.Perm (chooseD room (stayD p l) T).1
  o : O.Perm (chooseD room (stayD p l) T).2
  os : O.Pairwise fun x y => blt y x = false
  b : BestAt (fun v => mayV p v && !hasD (T.map Pd.id) v.id) l l.length z
theorem Way.none_ {room : S3} {p : Pd} {l K T R S : List Pd} {O : List ByteArray} (hi : ∀ x ∈ l, ∀ y ∈ l, x.id = y.id → x = y) (hn : l.Nodup) (hk : K.Perm (askD p l)) (h : Way room p l K T R S O (-1)) : K = T := by
  have h1 := rest_asked hi hn (by rw [← h.k]; exact hk)
  rw [h.b.none_, List.perm_nil] at h1
  rw [h.k, h1, List.append_nil]
theorem Way.head {room : S3} {p : Pd} {l K T R S : List Pd} {O : List ByteArray} {j : Nat} (hi : ∀ x ∈ l, ∀ y ∈ l, x.id = y.id → x = y) (hn : l.Nodup) (hk : K.Perm (askD p l)) (hs : K.Pairwise fun x y => vlt y x = false) (hj : j < l.length) (h : Way room p l K T R S O j) : ∃ R', R = l[j] :: R' ∧ K = (T ++ [l[j]]) ++ R' := by
  have h1 := rest_asked hi hn (by rw [← h.k]; exact hk)
  have hs2 : R.Pairwise fun x y => vlt y x = false := by have := h.k ▸ hs; exact (List.pairwise_append.1 this).2.1
  obtain ⟨_, R', e⟩ := h.b.head hi hj h1 hs2
  exact ⟨R', e, by rw [h.k, e]; simp⟩
theorem Way.len {room : S3} {p : Pd} {l K T R S : List Pd} {O : List ByteArray} {z : Int} (hk : K.Perm (askD p l)) (h : Way room p l K T R S O z) : T.length ≤ l.length ∧ S.length ≤ l.length + 1 ∧ O.length ≤ l.length ∧ T.length + R.length ≤ l.length := by
  have h0 : K.length ≤ l.length := by rw [hk.length_eq]; exact askD_len p l
  have h1 : K.length = T.length + R.length := by rw [h.k, List.length_append]
  obtain ⟨g, e1, e2, e3, _⟩ := chooseD_ids room T (stayD p l)
  have h2 := e2.length_eq
  have h3 := h.s.length_eq
  have h4 := h.o.length_eq
  have h5 := chooseD_len room (stayD p l) T
  have h6 := (stay_ask p l).length_eq
  have h7 := hk.length_eq
  simp only [List.length_append, List.length_cons, List.length_nil] at h2 h6
  omega
theorem Way.wf {room : S3} {p : Pd} {l K T R S : List Pd} {O : List ByteArray} {z : Int} (hk : K.Perm (askD p l)) (h : Way room p l K T R S O z) (hw : ∀ x ∈ l, x.Wf) (hp : p.Wf) : ∀ x ∈ S, x.Wf := fun x hx => by
  obtain ⟨g, _, e2, _, _⟩ := chooseD_ids room T (stayD p l)
  have h1 : x ∈ stayD p l ++ T := e2.subset (List.mem_append.2 (.inl (h.s.subset hx)))
  rcases List.mem_append.1 h1 with h2 | h2
  · unfold stayD at h2
    rcases List.mem_cons.1 h2 with rfl | h2
    · exact hp
    · exact hw x (List.mem_filter.1 h2).1
  · have : x ∈ K := by rw [h.k]; exact List.mem_append.2 (.inl h2)
    exact hw x (List.mem_filter.1 (hk.subset this)).1
/-- the next one stays -/
theorem Way.stay {room : S3} {p y : Pd} {l K T R R' S : List Pd} {O : List ByteArray} {z z' : Int} (h : Way room p l K T R S O z) (hk : K = (T ++ [y]) ++ R') (hv : fitsB room (S ++ [y]) = true) (hb : BestAt (fun v => mayV p v && !hasD ((T ++ [y]).map Pd.id) v.id) l l.length z') : Way room p l K (T ++ [y]) R' (S ++ [y]) O z' := by
  have hv2 : fitsB room ((chooseD room (stayD p l) T).1 ++ [y]) = true := by rw [← fitsB_perm (h.s.append_right [y])]; exact hv
  refine ⟨hk, ?_, ?_, h.os, hb⟩
  · rw [chooseD_snoc, if_pos hv2]; exact h.s.append_right [y]
  · rw [chooseD_snoc, if_pos hv2]; exact h.o
theorem Way.go {room : S3} {p y : Pd} {l K T R R' S : List Pd} {O O' : List ByteArray} {z z' : Int} (h : Way room p l K T R S O z) (hk : K = (T ++ [y]) ++ R') (hv : fitsB room (S ++ [y]) = false) (ho : O'.Perm (y.id :: O)) (hos : O'.Pairwise fun x y => blt y x = false) (hb : BestAt (fun v => mayV p v && !hasD ((T ++ [y]).map Pd.id) v.id) l l.length z') : Way room p l K (T ++ [y]) R' S O' z' := by
  have hv2 : ¬ fitsB room ((chooseD room (stayD p l) T).1 ++ [y]) = true := by rw [← fitsB_perm (h.s.append_right [y]), hv]; simp
  refine ⟨hk, ?_, ?_, hos, hb⟩
  · rw [chooseD_snoc, if_neg hv2]; exact h.s
  · rw [chooseD_snoc, if_neg hv2]
    exact ho.trans ((h.o.cons _).trans (List.perm_append_comm (l₁ := [y.id])))
/-- who stays, who was asked, who goes, in memory -/
structure Lug (W0 : World) (S : List Pd) (T O : List ByteArray) (v8 v9 v10 : Value) (W : World) : Prop where
  s : Own W W0.heap.size 44 encP v8 S
  t : Own W W0.heap.size 9 encS v9 T
  o : Own W W0.heap.size 9 encS v10 O
  ap : Apart v9 v10
  bel : Below W0.heap.size W0 W
theorem Lug.below {W0 W W' : World} {S : List Pd} {T O : List ByteArray} {v8 v9 v10 : Value} (h : Lug W0 S T O v8 v9 v10 W) (hb : Below W.heap.size W W') : Lug W0 S T O v8 v9 v10 W' :=
  ⟨h.s.below hb (Nat.le_refl _), h.t.below hb (Nat.le_refl _), h.o.below hb (Nat.le_refl _), h.ap, h.bel.trans (hb.mono h.bel.size)⟩
theorem Apart.later {w w' : World} {base : Nat} {e : TypeId} {α β : Type} {s1 s2 : Nat} {E1 : Enc α s1} {E2 : Enc β s2} {v1 v2 : Value} {l1 : List α} {l2 : List β} {e2 : TypeId} (h1 : Own w base e E1 v1 l1) (h2 : Own w' w.heap.size e2 E2 v2 l2) : Apart v1 v2 := fun g hg e => by
  have := (h1.block_lt g hg).2
  have := (h2.block_lt g e).1
  omega
theorem lug_push {W0 w0 w' : World} {S : List Pd} {T O : List ByteArray} {v8 v10 : Value} {A9 A9' : Option Addr} {c9 k9 n : Nat} {y : ByteArray} (h : Lug W0 S T O v8 (.slice A9 n c9) v10 w0) (ho : Own w' W0.heap.size 9 encS (.slice A9' (T.length + 1) k9) (T ++ [y])) (hb : Below W0.heap.size W0 w') (hg : (w0.alloc (.cells #[.string y] 9)).grownBy w' (Value.slice A9 n c9).ownBlock) (hd : (Value.slice A9' (T.length + 1) k9).ownBlock = (Value.slice A9 n c9).ownBlock ∨ (Value.slice A9' (T.length + 1) k9).ownBlock = some (w0.heap.size + 1)) :
    Lug W0 S (T ++ [y]) O v8 (.slice A9' (T.length + 1) k9) v10 w' :=
  ⟨(h.s.alloc _).grown hg (own_apartT h.s h.t (by decide)), ho, (h.o.alloc _).grown hg h.ap.ne, h.ap.next hd fun g hg => by have := (h.o.block_lt g hg).2; omega, hb⟩
def GivesRO (O : List ByteArray) (bb : Bool) (w : World) (e : Ending) (w' : World) : Prop := ∃ (A : Option Addr) (c : Nat), e = .returned (.tuple #[.slice A O.length c, .bool bb]) ∧ Own w' w.heap.size 9 encS (.slice A O.length c) O ∧ Below w.heap.size w w'
def GivesR (O : List ByteArray) (bb : Bool) (w : World) (e : Ending) (w' : World) : Prop := ∃ (A : Option Addr) (c : Nat), e = .returned (.tuple #[.slice A O.length c, .bool bb]) ∧ Rds w' encS A O ∧ Below w.heap.size w w'
end Go.Proofs.YtakgblgbfbpmoaaDoor

namespace Go.Proofs.YtakgblgbfbpmoaaDoor
open Go.RowKit

/-- a threshold, a config, as data -/
structure Th where
  sig : Int
  pct : Int
  amt : Int
  soft : Bool
  grace : Int
structure Cf where
  cap : S3
  room : S3
  A : Option Addr
  ts : List Th
  n : Nat
  per : Int
  ret : Int
  age : Int
  dead : Int
abbrev Cf.cells (f : Cf) : Array Value := #[.int .i64 f.cap.a, .int .i64 f.cap.b, .int .i64 f.cap.c, .int .i64 f.room.a, .int .i64 f.room.b, .int .i64 f.room.c, .slice f.A f.ts.length f.n, .int .i64 f.per, .int .i64 f.ret, .int .i64 f.age, .int .i64 f.dead]
def podsD (l : List En) : List Pd := l.map En.pod
/-- the verdict, or why there is none -/
def VerD (room : S3) (p : Pd) (l : List En) (a b c : Bool) (k s : Int) (O : List ByteArray) (err : Int) : Prop :=
  (p.right = false ∧ k = 0 ∧ s = 0 ∧ O = [] ∧ err = 1) ∨
  (p.right = true ∧ hasE l p.id = true ∧ k = 0 ∧ s = 0 ∧ O = [] ∧ err = 5) ∨
  (p.right = true ∧ hasE l p.id = false ∧ 64 ≤ l.length ∧ k = 0 ∧ s = 0 ∧ O = [] ∧ err = 6) ∨
  (p.right = true ∧ hasE l p.id = false ∧ l.length < 64 ∧ (barD a b c p).2 = true ∧ k = 3 ∧ s = (barD a b c p).1 ∧ O = [] ∧ err = 0) ∨
  (p.right = true ∧ hasE l p.id = false ∧ l.length < 64 ∧ (barD a b c p).2 = false ∧ s = 0 ∧ err = 0 ∧ ∃ bb, WhoD room p (podsD l) O bb ∧ k = if bb = false then 4 else if O = [] then 1 else 2)
def GivesV (room : S3) (p : Pd) (l : List En) (a b c : Bool) (w : World) (e : Ending) (w' : World) : Prop :=
  ∃ (k s : Int) (O : List ByteArray) (err : Int) (A : Option Addr) (n : Nat), e = .returned (.tuple #[.agg #[.int .i64 k, .int .i64 s, .slice A O.length n], .int .i64 err]) ∧ VerD room p l a b c k s O err ∧ Own w' w.heap.size 9 encS (.slice A O.length n) O ∧ Below w.heap.size w w'
theorem rightPV {p : Pd} {v : Bool} (hv : p.right = v) (w : World) (hp : p.Wf) :
    Calls Tryd.prog 47 #[.agg p.cells] w fun e w' => e = .returned (.bool v) ∧ Below w.heap.size w w' := by subst hv; exact right_any p w hp

theorem podsD_snoc (l : List En) (i : Nat) (hi : i < l.length) : podsD (l.take (i + 1)) = podsD (l.take i) ++ [l[i].pod] := by
  unfold podsD
  rw [List.take_succ_eq_append_getElem hi, List.map_append]
  rfl
theorem podsD_len (l : List En) : (podsD l).length = l.length := by unfold podsD; simp
end Go.Proofs.YtakgblgbfbpmoaaDoor
