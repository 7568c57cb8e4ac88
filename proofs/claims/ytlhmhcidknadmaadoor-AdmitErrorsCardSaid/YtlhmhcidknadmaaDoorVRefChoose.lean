/- bilgeref21.Choose: the same pods go. -/
import Derived.Test.YtlhmhcidknadmaaDoorVNext
import Derived.Test.YtlhmhcidknadmaaDoorVPut
import Derived.Test.YtlhmhcidknadmaaDoorVWho
import Derived.Test.YtlhmhcidknadmaaDoorVGen
namespace Go.Proofs.YtlhmhcidknadmaaDoor
open Go.RowKit

theorem chooseD_snoc (room : S3) (v : Pd) (ks : List Pd) : ∀ st : List Pd, chooseD room st (ks ++ [v]) = if fitsB room ((chooseD room st ks).1 ++ [v]) = true then ((chooseD room st ks).1 ++ [v], (chooseD room st ks).2) else ((chooseD room st ks).1, (chooseD room st ks).2 ++ [v.id]) := by
  induction ks with
  | nil => intro st; by_cases h : fitsB room (st ++ [v]) = true <;> simp [chooseD, h]
  | cons k ks ih =>
    intro st
    rw [List.cons_append]
    unfold chooseD
    split
    · exact ih _
    · rw [ih]
      split <;> simp
theorem rest_asked {p : Pd} {l T R : List Pd} (hi : ∀ x ∈ l, ∀ y ∈ l, x.id = y.id → x = y) (hn : l.Nodup) (hk : (T ++ R).Perm (askD p l)) : R.Perm (l.filter fun v => mayV p v && !hasD (T.map Pd.id) v.id) := by
  have e : (l.filter fun v => mayV p v && !hasD (T.map Pd.id) v.id) = (askD p l).filter fun v => !hasD (T.map Pd.id) v.id := by
    unfold askD
    rw [List.filter_filter]
    congr 1
    funext v
    exact Bool.and_comm _ _
  rw [e]
  have hnd : (T ++ R).Nodup := hk.nodup_iff.2 (hn.filter _)
  have hin : ∀ x ∈ T ++ R, x ∈ l := fun x hx => (List.mem_filter.1 (hk.subset hx)).1
  refine .trans ?_ (hk.filter _)
  rw [List.filter_append]
  have e1 : T.filter (fun v => !hasD (T.map Pd.id) v.id) = [] := List.filter_eq_nil_iff.2 fun x hx => by
    rw [mem_hasD.2 (List.mem_map.2 ⟨x, hx, rfl⟩)]; simp
  have e2 : R.filter (fun v => !hasD (T.map Pd.id) v.id) = R := List.filter_eq_self.2 fun x hx => by
    rw [hasD_no fun h => ?_]
    · rfl
    · obtain ⟨y, hy, e⟩ := List.mem_map.1 h
      have := hi y (hin y (by simp [hy])) x (hin x (by simp [hx])) e
      subst this
      exact absurd rfl ((List.nodup_append.1 hnd).2.2 y hy y hx)
  rw [e1, e2, List.nil_append]
theorem spCells {room : S3} {p y : Pd} {l : List Pd} {b off j : Nat} {w W : World} (h : CQ room p w W) (hr : Rds W encP (some ⟨b, off, none⟩) l) (hj : l[j]? = some y) : W.cell? ⟨w.heap.size, 0, none⟩ = some (.int .i64 room.a) ∧ W.cell? ⟨w.heap.size, 1, none⟩ = some (.int .i64 room.b) ∧ W.cell? ⟨w.heap.size, 2, none⟩ = some (.int .i64 room.c) ∧ W.cell? ⟨w.heap.size + 1, 0, none⟩ = some (.string p.id) ∧ W.cell? ⟨w.heap.size + 1, 1, none⟩ = some (.int .i64 p.prio) ∧ W.cell? ⟨w.heap.size + 1, 2, none⟩ = some (.bool p.crit) ∧ W.cell? ⟨w.heap.size + 1, 3, none⟩ = some (.int .i64 p.q0) ∧ W.cell? ⟨w.heap.size + 1, 4, none⟩ = some (.int .i64 p.q1) ∧ W.cell? ⟨w.heap.size + 1, 5, none⟩ = some (.int .i64 p.q2) ∧ W.cell? ⟨w.heap.size + 1, 6, none⟩ = some (.int .i64 p.l0) ∧ W.cell? ⟨w.heap.size + 1, 7, none⟩ = some (.int .i64 p.l1) ∧ W.cell? ⟨w.heap.size + 1, 8, none⟩ = some (.int .i64 p.l2) ∧ W.cell? ⟨w.heap.size + 1, 9, none⟩ = some (.string p.image) ∧ W.cell? ⟨w.heap.size + 1, 10, none⟩ = some (.int .i64 p.size) ∧ W.cell? ⟨b, off + j * 11, none⟩ = some (.string y.id) ∧ W.cell? ⟨b, off + j * 11 + 1, none⟩ = some (.int .i64 y.prio) ∧ W.cell? ⟨b, off + j * 11 + 2, none⟩ = some (.bool y.crit) ∧ W.cell? ⟨b, off + j * 11 + 3, none⟩ = some (.int .i64 y.q0) ∧ W.cell? ⟨b, off + j * 11 + 4, none⟩ = some (.int .i64 y.q1) ∧ W.cell? ⟨b, off + j * 11 + 5, none⟩ = some (.int .i64 y.q2) ∧ W.cell? ⟨b, off + j * 11 + 6, none⟩ = some (.int .i64 y.l0) ∧ W.cell? ⟨b, off + j * 11 + 7, none⟩ = some (.int .i64 y.l1) ∧ W.cell? ⟨b, off + j * 11 + 8, none⟩ = some (.int .i64 y.l2) ∧ W.cell? ⟨b, off + j * 11 + 9, none⟩ = some (.string y.image) ∧ W.cell? ⟨b, off + j * 11 + 10, none⟩ = some (.int .i64 y.size) := by
  obtain ⟨q0, q1, q2, q3, q4, q5, q6, q7, q8, q9, q10⟩ := h.pb.pd
  obtain ⟨y0, y1, y2, y3, y4, y5, y6, y7, y8, y9, y10⟩ := hr.pdAt (Below.refl _ _) hj
  exact ⟨h.rm.cell 0, h.rm.cell 1, h.rm.cell 2, q0, q1, q2, q3, q4, q5, q6, q7, q8, q9, q10, y0, y1, y2, y3, y4, y5, y6, y7, y8, y9, y10⟩
theorem rpCells {room : S3} {p : Pd} {w W : World} (h : CQ room p w W) : W.cell? ⟨w.heap.size, 0, none⟩ = some (.int .i64 room.a) ∧ W.cell? ⟨w.heap.size, 1, none⟩ = some (.int .i64 room.b) ∧ W.cell? ⟨w.heap.size, 2, none⟩ = some (.int .i64 room.c) ∧ W.cell? ⟨w.heap.size + 1, 0, none⟩ = some (.string p.id) ∧ W.cell? ⟨w.heap.size + 1, 1, none⟩ = some (.int .i64 p.prio) ∧ W.cell? ⟨w.heap.size + 1, 2, none⟩ = some (.bool p.crit) ∧ W.cell? ⟨w.heap.size + 1, 3, none⟩ = some (.int .i64 p.q0) ∧ W.cell? ⟨w.heap.size + 1, 4, none⟩ = some (.int .i64 p.q1) ∧ W.cell? ⟨w.heap.size + 1, 5, none⟩ = some (.int .i64 p.q2) ∧ W.cell? ⟨w.heap.size + 1, 6, none⟩ = some (.int .i64 p.l0) ∧ W.cell? ⟨w.heap.size + 1, 7, none⟩ = some (.int .i64 p.l1) ∧ W.cell? ⟨w.heap.size + 1, 8, none⟩ = some (.int .i64 p.l2) ∧ W.cell? ⟨w.heap.size + 1, 9, none⟩ = some (.string p.image) ∧ W.cell? ⟨w.heap.size + 1, 10, none⟩ = some (.int .i64 p.size) := by
  obtain ⟨q0, q1, q2, q3, q4, q5, q6, q7, q8, q9, q10⟩ := h.pb.pd
  exact ⟨h.rm.cell 0, h.rm.cell 1, h.rm.cell 2, q0, q1, q2, q3, q4, q5, q6, q7, q8, q9, q10⟩
def sliceLen : Value → Nat
  | .slice _ n _ => n
  | _ => 0
/-- who was asked, who stays, who goes so far -/
structure Way (room : S3) (p : Pd) (l K T R S : List Pd) (O : List ByteArray) (z : Int) : Prop where
  k : K = T ++ R
  s : S.Perm (chooseD room (stayD p l) T).1
  o : O.Perm (chooseD room (stayD p l) T).2
  os : O.Pairwise fun x y => blt y x = false
  b : BestAt (fun v => mayV p v && !hasD (T.map Pd.id) v.id) l l.length z
theorem Way.none_ {room : S3} {p : Pd} {l K T R S : List Pd} {O : List ByteArray} (hi : ∀ x ∈ l, ∀ y ∈ l, x.id = y.id → x = y) (hn : l.Nodup) (hk : K.Perm (askD p l)) (h : Way room p l K T R S O (-1)) : K = T := by
  have h1 := rest_asked hi hn (by rw [← h.k]; exact hk)
  rw [h.b.none_, List.perm_nil] at h1
  rw [h.k, h1, List.append_nil]
theorem Way.head {room : S3} {p : Pd} {l K T R S : List Pd} {O : List ByteArray} {j : Nat} (hi : ∀ x ∈ l, ∀ y ∈ l, x.id = y.id → x = y) (hn : l.Nodup) (hk : K.Perm (askD p l)) (hs : K.Pairwise fun x y => vlt y x = false) (hj : j < l.length) (h : Way room p l K T R S O j) : ∃ R', R = l[j] :: R' ∧ K = (T ++ [l[j]]) ++ R' := by
  have h1 := rest_asked hi hn (by rw [← h.k]; exact hk)
  have hs2 : R.Pairwise fun x y => vlt y x = false := by have := h.k ▸ hs; exact (List.pairwise_append.1 this).2.1
  obtain ⟨_, R', e⟩ := h.b.head hi hj h1 hs2
  exact ⟨R', e, by rw [h.k, e]; simp⟩
theorem Way.len {room : S3} {p : Pd} {l K T R S : List Pd} {O : List ByteArray} {z : Int} (hk : K.Perm (askD p l)) (h : Way room p l K T R S O z) : T.length ≤ l.length ∧ S.length ≤ l.length + 1 ∧ O.length ≤ l.length ∧ T.length + R.length ≤ l.length := by
  have h0 : K.length ≤ l.length := by rw [hk.length_eq]; exact askD_len p l
  have h1 : K.length = T.length + R.length := by rw [h.k, List.length_append]
  obtain ⟨g, e1, e2, e3, _⟩ := chooseD_ids room T (stayD p l)
  have h2 := e2.length_eq
  have h3 := h.s.length_eq
  have h4 := h.o.length_eq
  have h5 := chooseD_len room (stayD p l) T
  have h6 := (stay_ask p l).length_eq
  have h7 := hk.length_eq
  simp only [List.length_append, List.length_cons, List.length_nil] at h2 h6
  omega
theorem Way.wf {room : S3} {p : Pd} {l K T R S : List Pd} {O : List ByteArray} {z : Int} (hk : K.Perm (askD p l)) (h : Way room p l K T R S O z) (hw : ∀ x ∈ l, x.Wf) (hp : p.Wf) : ∀ x ∈ S, x.Wf := fun x hx => by
  obtain ⟨g, _, e2, _, _⟩ := chooseD_ids room T (stayD p l)
  have h1 : x ∈ stayD p l ++ T := e2.subset (List.mem_append.2 (.inl (h.s.subset hx)))
  rcases List.mem_append.1 h1 with h2 | h2
  · unfold stayD at h2
    rcases List.mem_cons.1 h2 with rfl | h2
    · exact hp
    · exact hw x (List.mem_filter.1 h2).1
  · have : x ∈ K := by rw [h.k]; exact List.mem_append.2 (.inl h2)
    exact hw x (List.mem_filter.1 (hk.subset this)).1
/-- the next one stays -/
theorem Way.stay {room : S3} {p y : Pd} {l K T R R' S : List Pd} {O : List ByteArray} {z z' : Int} (h : Way room p l K T R S O z) (hk : K = (T ++ [y]) ++ R') (hv : fitsB room (S ++ [y]) = true) (hb : BestAt (fun v => mayV p v && !hasD ((T ++ [y]).map Pd.id) v.id) l l.length z') : Way room p l K (T ++ [y]) R' (S ++ [y]) O z' := by
  have hv2 : fitsB room ((chooseD room (stayD p l) T).1 ++ [y]) = true := by rw [← fitsB_perm (h.s.append_right [y])]; exact hv
  refine ⟨hk, ?_, ?_, h.os, hb⟩
  · rw [chooseD_snoc, if_pos hv2]; exact h.s.append_right [y]
  · rw [chooseD_snoc, if_pos hv2]; exact h.o
theorem Way.go {room : S3} {p y : Pd} {l K T R R' S : List Pd} {O O' : List ByteArray} {z z' : Int} (h : Way room p l K T R S O z) (hk : K = (T ++ [y]) ++ R') (hv : fitsB room (S ++ [y]) = false) (ho : O'.Perm (y.id :: O)) (hos : O'.Pairwise fun x y => blt y x = false) (hb : BestAt (fun v => mayV p v && !hasD ((T ++ [y]).map Pd.id) v.id) l l.length z') : Way room p l K (T ++ [y]) R' S O' z' := by
  have hv2 : ¬ fitsB room ((chooseD room (stayD p l) T).1 ++ [y]) = true := by rw [← fitsB_perm (h.s.append_right [y]), hv]; simp
  refine ⟨hk, ?_, ?_, hos, hb⟩
  · rw [chooseD_snoc, if_neg hv2]; exact h.s
  · rw [chooseD_snoc, if_neg hv2]
    exact ho.trans ((h.o.cons _).trans (List.perm_append_comm (l₁ := [y.id])))
/-- who stays, who was asked, who goes, in memory -/
structure Lug (W0 : World) (S : List Pd) (T O : List ByteArray) (v8 v9 v10 : Value) (W : World) : Prop where
  s : Own W W0.heap.size 29 encP v8 S
  t : Own W W0.heap.size 9 encS v9 T
  o : Own W W0.heap.size 9 encS v10 O
  ap : Apart v9 v10
  bel : Below W0.heap.size W0 W
theorem Lug.below {W0 W W' : World} {S : List Pd} {T O : List ByteArray} {v8 v9 v10 : Value} (h : Lug W0 S T O v8 v9 v10 W) (hb : Below W.heap.size W W') : Lug W0 S T O v8 v9 v10 W' :=
  ⟨h.s.below hb (Nat.le_refl _), h.t.below hb (Nat.le_refl _), h.o.below hb (Nat.le_refl _), h.ap, h.bel.trans (hb.mono h.bel.size)⟩
theorem Apart.later {w w' : World} {base : Nat} {e : TypeId} {α β : Type} {s1 s2 : Nat} {E1 : Enc α s1} {E2 : Enc β s2} {v1 v2 : Value} {l1 : List α} {l2 : List β} {e2 : TypeId} (h1 : Own w base e E1 v1 l1) (h2 : Own w' w.heap.size e2 E2 v2 l2) : Apart v1 v2 := fun g hg e => by
  have := (h1.block_lt g hg).2
  have := (h2.block_lt g e).1
  omega
theorem lug_push {W0 w0 w' : World} {S : List Pd} {T O : List ByteArray} {v8 v10 : Value} {A9 A9' : Option Addr} {c9 k9 n : Nat} {y : ByteArray} (h : Lug W0 S T O v8 (.slice A9 n c9) v10 w0) (ho : Own w' W0.heap.size 9 encS (.slice A9' (T.length + 1) k9) (T ++ [y])) (hb : Below W0.heap.size W0 w') (hg : (w0.alloc (.cells #[.string y] 9)).grownBy w' (Value.slice A9 n c9).ownBlock) (hd : (Value.slice A9' (T.length + 1) k9).ownBlock = (Value.slice A9 n c9).ownBlock ∨ (Value.slice A9' (T.length + 1) k9).ownBlock = some (w0.heap.size + 1)) :
    Lug W0 S (T ++ [y]) O v8 (.slice A9' (T.length + 1) k9) v10 w' :=
  ⟨(h.s.alloc _).grown hg (own_apartT h.s h.t (by decide)), ho, (h.o.alloc _).grown hg h.ap.ne, h.ap.next hd fun g hg => by have := (h.o.block_lt g hg).2; omega, hb⟩
def GivesRO (O : List ByteArray) (bb : Bool) (w : World) (e : Ending) (w' : World) : Prop := ∃ (A : Option Addr) (c : Nat), e = .returned (.tuple #[.slice A O.length c, .bool bb]) ∧ Own w' w.heap.size 9 encS (.slice A O.length c) O ∧ Below w.heap.size w w'
def GivesR (O : List ByteArray) (bb : Bool) (w : World) (e : Ending) (w' : World) : Prop := ∃ (A : Option Addr) (c : Nat), e = .returned (.tuple #[.slice A O.length c, .bool bb]) ∧ Rds w' encS A O ∧ Below w.heap.size w w'
end Go.Proofs.YtlhmhcidknadmaaDoor
