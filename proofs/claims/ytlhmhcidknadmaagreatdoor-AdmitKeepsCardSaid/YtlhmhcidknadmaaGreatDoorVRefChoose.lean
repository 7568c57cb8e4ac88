/- bilgeref21.Choose: the same pods go. -/
import Derived.Test.YtlhmhcidknadmaaGreatDoorVNext
import Derived.Test.YtlhmhcidknadmaaGreatDoorVPut
import Derived.Test.YtlhmhcidknadmaaGreatDoorVWho
import Derived.Test.YtlhmhcidknadmaaGreatDoorVGen
namespace Go.Proofs.YtlhmhcidknadmaaGreatDoor
open Go.RowKit

theorem chooseD_snoc (room : S3) (v : Pd) (ks : List Pd) : ∀ st : List Pd, chooseD room st (ks ++ [v]) = if fitsB room ((chooseD room st ks).1 ++ [v]) = true then ((chooseD room st ks).1 ++ [v], (chooseD room st ks).2) else ((chooseD room st ks).1, (chooseD room st ks).2 ++ [v.id]) := by
  induction ks with
  | nil => intro st; by_cases h : fitsB room (st ++ [v]) = true <;> simp [chooseD, h]
  | cons k ks ih =>
    intro st
    rw [List.cons_append]
    unfold chooseD
    split
    · exact ih _
    · rw [ih]
      split <;> simp
theorem refFitsV {room : S3} {l : List Pd} {v : Bool} (hv : fitsB room l = v) {A : Option Addr} {c : Nat} {w : World} (hr : Rds w encP A l) (hwf : ∀ p ∈ l, p.Wf) (hn : l.length ≤ 200000) :
    Calls Tryz.prog 33 #[.agg #[.int .i64 room.a, .int .i64 room.b, .int .i64 room.c], .slice A l.length c] w fun e w' => e = .returned (.bool v) ∧ Below w.heap.size w w' := by subst hv; exact refVfits_any room l A c w hr hwf (by omega)
theorem refFitsN {room : S3} {l : List Pd} {n : Nat} (hn : n = l.length) {v : Bool} (hv : fitsB room l = v) {A : Option Addr} {c : Nat} {w : World} (hr : Rds w encP A l) (hwf : ∀ p ∈ l, p.Wf) (hm : l.length ≤ 200000) :
    Calls Tryz.prog 33 #[.agg #[.int .i64 room.a, .int .i64 room.b, .int .i64 room.c], .slice A n c] w fun e w' => e = .returned (.bool v) ∧ Below w.heap.size w w' := by subst hn; exact refFitsV hv hr hwf hm
theorem rest_asked {p : Pd} {l T R : List Pd} (hi : ∀ x ∈ l, ∀ y ∈ l, x.id = y.id → x = y) (hn : l.Nodup) (hk : (T ++ R).Perm (askD p l)) : R.Perm (l.filter fun v => mayV p v && !hasD (T.map Pd.id) v.id) := by
  have e : (l.filter fun v => mayV p v && !hasD (T.map Pd.id) v.id) = (askD p l).filter fun v => !hasD (T.map Pd.id) v.id := by
    unfold askD
    rw [List.filter_filter]
    congr 1
    funext v
    exact Bool.and_comm _ _
  rw [e]
  have hnd : (T ++ R).Nodup := hk.nodup_iff.2 (hn.filter _)
  have hin : ∀ x ∈ T ++ R, x ∈ l := fun x hx => (List.mem_filter.1 (hk.subset hx)).1
  refine .trans ?_ (hk.filter _)
  rw [List.filter_append]
  have e1 : T.filter (fun v => !hasD (T.map Pd.id) v.id) = [] := List.filter_eq_nil_iff.2 fun x hx => by
    rw [mem_hasD.2 (List.mem_map.2 ⟨x, hx, rfl⟩)]; simp
  have e2 : R.filter (fun v => !hasD (T.map Pd.id) v.id) = R := List.filter_eq_self.2 fun x hx => by
    rw [hasD_no fun h => ?_]
    · rfl
    · obtain ⟨y, hy, e⟩ := List.mem_map.1 h
      have := hi y (hin y (by simp [hy])) x (hin x (by simp [hx])) e
      subst this
      exact absurd rfl ((List.nodup_append.1 hnd).2.2 y hy y hx)
  rw [e1, e2, List.nil_append]
theorem spCells {room : S3} {p y : Pd} {l : List Pd} {b off j : Nat} {w W : World} (h : CQ room p w W) (hr : Rds W encP (some ⟨b, off, none⟩) l) (hj : l[j]? = some y) : W.cell? ⟨w.heap.size, 0, none⟩ = some (.int .i64 room.a) ∧ W.cell? ⟨w.heap.size, 1, none⟩ = some (.int .i64 room.b) ∧ W.cell? ⟨w.heap.size, 2, none⟩ = some (.int .i64 room.c) ∧ W.cell? ⟨w.heap.size + 1, 0, none⟩ = some (.string p.id) ∧ W.cell? ⟨w.heap.size + 1, 1, none⟩ = some (.int .i64 p.prio) ∧ W.cell? ⟨w.heap.size + 1, 2, none⟩ = some (.bool p.crit) ∧ W.cell? ⟨w.heap.size + 1, 3, none⟩ = some (.int .i64 p.q0) ∧ W.cell? ⟨w.heap.size + 1, 4, none⟩ = some (.int .i64 p.q1) ∧ W.cell? ⟨w.heap.size + 1, 5, none⟩ = some (.int .i64 p.q2) ∧ W.cell? ⟨w.heap.size + 1, 6, none⟩ = some (.int .i64 p.l0) ∧ W.cell? ⟨w.heap.size + 1, 7, none⟩ = some (.int .i64 p.l1) ∧ W.cell? ⟨w.heap.size + 1, 8, none⟩ = some (.int .i64 p.l2) ∧ W.cell? ⟨w.heap.size + 1, 9, none⟩ = some (.string p.image) ∧ W.cell? ⟨w.heap.size + 1, 10, none⟩ = some (.int .i64 p.size) ∧ W.cell? ⟨b, off + j * 11, none⟩ = some (.string y.id) ∧ W.cell? ⟨b, off + j * 11 + 1, none⟩ = some (.int .i64 y.prio) ∧ W.cell? ⟨b, off + j * 11 + 2, none⟩ = some (.bool y.crit) ∧ W.cell? ⟨b, off + j * 11 + 3, none⟩ = some (.int .i64 y.q0) ∧ W.cell? ⟨b, off + j * 11 + 4, none⟩ = some (.int .i64 y.q1) ∧ W.cell? ⟨b, off + j * 11 + 5, none⟩ = some (.int .i64 y.q2) ∧ W.cell? ⟨b, off + j * 11 + 6, none⟩ = some (.int .i64 y.l0) ∧ W.cell? ⟨b, off + j * 11 + 7, none⟩ = some (.int .i64 y.l1) ∧ W.cell? ⟨b, off + j * 11 + 8, none⟩ = some (.int .i64 y.l2) ∧ W.cell? ⟨b, off + j * 11 + 9, none⟩ = some (.string y.image) ∧ W.cell? ⟨b, off + j * 11 + 10, none⟩ = some (.int .i64 y.size) := by
  obtain ⟨q0, q1, q2, q3, q4, q5, q6, q7, q8, q9, q10⟩ := h.pb.pd
  obtain ⟨y0, y1, y2, y3, y4, y5, y6, y7, y8, y9, y10⟩ := hr.pdAt (Below.refl _ _) hj
  exact ⟨h.rm.cell 0, h.rm.cell 1, h.rm.cell 2, q0, q1, q2, q3, q4, q5, q6, q7, q8, q9, q10, y0, y1, y2, y3, y4, y5, y6, y7, y8, y9, y10⟩
theorem rpCells {room : S3} {p : Pd} {w W : World} (h : CQ room p w W) : W.cell? ⟨w.heap.size, 0, none⟩ = some (.int .i64 room.a) ∧ W.cell? ⟨w.heap.size, 1, none⟩ = some (.int .i64 room.b) ∧ W.cell? ⟨w.heap.size, 2, none⟩ = some (.int .i64 room.c) ∧ W.cell? ⟨w.heap.size + 1, 0, none⟩ = some (.string p.id) ∧ W.cell? ⟨w.heap.size + 1, 1, none⟩ = some (.int .i64 p.prio) ∧ W.cell? ⟨w.heap.size + 1, 2, none⟩ = some (.bool p.crit) ∧ W.cell? ⟨w.heap.size + 1, 3, none⟩ = some (.int .i64 p.q0) ∧ W.cell? ⟨w.heap.size + 1, 4, none⟩ = some (.int .i64 p.q1) ∧ W.cell? ⟨w.heap.size + 1, 5, none⟩ = some (.int .i64 p.q2) ∧ W.cell? ⟨w.heap.size + 1, 6, none⟩ = some (.int .i64 p.l0) ∧ W.cell? ⟨w.heap.size + 1, 7, none⟩ = some (.int .i64 p.l1) ∧ W.cell? ⟨w.heap.size + 1, 8, none⟩ = some (.int .i64 p.l2) ∧ W.cell? ⟨w.heap.size + 1, 9, none⟩ = some (.string p.image) ∧ W.cell? ⟨w.heap.size + 1, 10, none⟩ = some (.int .i64 p.size) := by
  obtain ⟨q0, q1, q2, q3, q4, q5, q6, q7, q8, q9, q10⟩ := h.pb.pd
  exact ⟨h.rm.cell 0, h.rm.cell 1, h.rm.cell 2, q0, q1, q2, q3, q4, q5, q6, q7, q8, q9, q10⟩
def sliceLen : Value → Nat
  | .slice _ n _ => n
  | _ => 0
/-- who was asked, who stays, who goes so far -/
structure Way (room : S3) (p : Pd) (l K T R S : List Pd) (O : List ByteArray) (z : Int) : Prop where
  k : K = T ++ R
  s : S.Perm (chooseD room (stayD p l) T).1
  o : O.Perm (chooseD room (stayD p l) T).2
  os : O.Pairwise fun x y => blt y x = false
  b : BestAt (fun v => mayV p v && !hasD (T.map Pd.id) v.id) l l.length z
theorem Way.none_ {room : S3} {p : Pd} {l K T R S : List Pd} {O : List ByteArray} (hi : ∀ x ∈ l, ∀ y ∈ l, x.id = y.id → x = y) (hn : l.Nodup) (hk : K.Perm (askD p l)) (h : Way room p l K T R S O (-1)) : K = T := by
  have h1 := rest_asked hi hn (by rw [← h.k]; exact hk)
  rw [h.b.none_, List.perm_nil] at h1
  rw [h.k, h1, List.append_nil]
theorem Way.head {room : S3} {p : Pd} {l K T R S : List Pd} {O : List ByteArray} {j : Nat} (hi : ∀ x ∈ l, ∀ y ∈ l, x.id = y.id → x = y) (hn : l.Nodup) (hk : K.Perm (askD p l)) (hs : K.Pairwise fun x y => vlt y x = false) (hj : j < l.length) (h : Way room p l K T R S O j) : ∃ R', R = l[j] :: R' ∧ K = (T ++ [l[j]]) ++ R' := by
  have h1 := rest_asked hi hn (by rw [← h.k]; exact hk)
  have hs2 : R.Pairwise fun x y => vlt y x = false := by have := h.k ▸ hs; exact (List.pairwise_append.1 this).2.1
  obtain ⟨_, R', e⟩ := h.b.head hi hj h1 hs2
  exact ⟨R', e, by rw [h.k, e]; simp⟩
theorem Way.len {room : S3} {p : Pd} {l K T R S : List Pd} {O : List ByteArray} {z : Int} (hk : K.Perm (askD p l)) (h : Way room p l K T R S O z) : T.length ≤ l.length ∧ S.length ≤ l.length + 1 ∧ O.length ≤ l.length ∧ T.length + R.length ≤ l.length := by
  have h0 : K.length ≤ l.length := by rw [hk.length_eq]; exact askD_len p l
  have h1 : K.length = T.length + R.length := by rw [h.k, List.length_append]
  obtain ⟨g, e1, e2, e3, _⟩ := chooseD_ids room T (stayD p l)
  have h2 := e2.length_eq
  have h3 := h.s.length_eq
  have h4 := h.o.length_eq
  have h5 := chooseD_len room (stayD p l) T
  have h6 := (stay_ask p l).length_eq
  have h7 := hk.length_eq
  simp only [List.length_append, List.length_cons, List.length_nil] at h2 h6
  omega
theorem Way.wf {room : S3} {p : Pd} {l K T R S : List Pd} {O : List ByteArray} {z : Int} (hk : K.Perm (askD p l)) (h : Way room p l K T R S O z) (hw : ∀ x ∈ l, x.Wf) (hp : p.Wf) : ∀ x ∈ S, x.Wf := fun x hx => by
  obtain ⟨g, _, e2, _, _⟩ := chooseD_ids room T (stayD p l)
  have h1 : x ∈ stayD p l ++ T := e2.subset (List.mem_append.2 (.inl (h.s.subset hx)))
  rcases List.mem_append.1 h1 with h2 | h2
  · unfold stayD at h2
    rcases List.mem_cons.1 h2 with rfl | h2
    · exact hp
    · exact hw x (List.mem_filter.1 h2).1
  · have : x ∈ K := by rw [h.k]; exact List.mem_append.2 (.inl h2)
    exact hw x (List.mem_filter.1 (hk.subset this)).1
/-- the next one stays -/
theorem Way.stay {room : S3} {p y : Pd} {l K T R R' S : List Pd} {O : List ByteArray} {z z' : Int} (h : Way room p l K T R S O z) (hk : K = (T ++ [y]) ++ R') (hv : fitsB room (S ++ [y]) = true) (hb : BestAt (fun v => mayV p v && !hasD ((T ++ [y]).map Pd.id) v.id) l l.length z') : Way room p l K (T ++ [y]) R' (S ++ [y]) O z' := by
  have hv2 : fitsB room ((chooseD room (stayD p l) T).1 ++ [y]) = true := by rw [← fitsB_perm (h.s.append_right [y])]; exact hv
  refine ⟨hk, ?_, ?_, h.os, hb⟩
  · rw [chooseD_snoc, if_pos hv2]; exact h.s.append_right [y]
  · rw [chooseD_snoc, if_pos hv2]; exact h.o
theorem Way.go {room : S3} {p y : Pd} {l K T R R' S : List Pd} {O O' : List ByteArray} {z z' : Int} (h : Way room p l K T R S O z) (hk : K = (T ++ [y]) ++ R') (hv : fitsB room (S ++ [y]) = false) (ho : O'.Perm (y.id :: O)) (hos : O'.Pairwise fun x y => blt y x = false) (hb : BestAt (fun v => mayV p v && !hasD ((T ++ [y]).map Pd.id) v.id) l l.length z') : Way room p l K (T ++ [y]) R' S O' z' := by
  have hv2 : ¬ fitsB room ((chooseD room (stayD p l) T).1 ++ [y]) = true := by rw [← fitsB_perm (h.s.append_right [y]), hv]; simp
  refine ⟨hk, ?_, ?_, hos, hb⟩
  · rw [chooseD_snoc, if_neg hv2]; exact h.s
  · rw [chooseD_snoc, if_neg hv2]
    exact ho.trans ((h.o.cons _).trans (List.perm_append_comm (l₁ := [y.id])))
/-- who stays, who was asked, who goes, in memory -/
structure Lug (W0 : World) (S : List Pd) (T O : List ByteArray) (v8 v9 v10 : Value) (W : World) : Prop where
  s : Own W W0.heap.size 29 encP v8 S
  t : Own W W0.heap.size 9 encS v9 T
  o : Own W W0.heap.size 9 encS v10 O
  ap : Apart v9 v10
  bel : Below W0.heap.size W0 W
theorem Lug.below {W0 W W' : World} {S : List Pd} {T O : List ByteArray} {v8 v9 v10 : Value} (h : Lug W0 S T O v8 v9 v10 W) (hb : Below W.heap.size W W') : Lug W0 S T O v8 v9 v10 W' :=
  ⟨h.s.below hb (Nat.le_refl _), h.t.below hb (Nat.le_refl _), h.o.below hb (Nat.le_refl _), h.ap, h.bel.trans (hb.mono h.bel.size)⟩
theorem Apart.later {w w' : World} {base : Nat} {e : TypeId} {α β : Type} {s1 s2 : Nat} {E1 : Enc α s1} {E2 : Enc β s2} {v1 v2 : Value} {l1 : List α} {l2 : List β} {e2 : TypeId} (h1 : Own w base e E1 v1 l1) (h2 : Own w' w.heap.size e2 E2 v2 l2) : Apart v1 v2 := fun g hg e => by
  have := (h1.block_lt g hg).2
  have := (h2.block_lt g e).1
  omega
theorem lug_push {W0 w0 w' : World} {S : List Pd} {T O : List ByteArray} {v8 v10 : Value} {A9 A9' : Option Addr} {c9 k9 n : Nat} {y : ByteArray} (h : Lug W0 S T O v8 (.slice A9 n c9) v10 w0) (ho : Own w' W0.heap.size 9 encS (.slice A9' (T.length + 1) k9) (T ++ [y])) (hb : Below W0.heap.size W0 w') (hg : (w0.alloc (.cells #[.string y] 9)).grownBy w' (Value.slice A9 n c9).ownBlock) (hd : (Value.slice A9' (T.length + 1) k9).ownBlock = (Value.slice A9 n c9).ownBlock ∨ (Value.slice A9' (T.length + 1) k9).ownBlock = some (w0.heap.size + 1)) :
    Lug W0 S (T ++ [y]) O v8 (.slice A9' (T.length + 1) k9) v10 w' :=
  ⟨(h.s.alloc _).grown hg (own_apartT h.s h.t (by decide)), ho, (h.o.alloc _).grown hg h.ap.ne, h.ap.next hd fun g hg => by have := (h.o.block_lt g hg).2; omega, hb⟩
theorem nextN {p : Pd} {l : List Pd} {asked : List ByteArray} {n : Nat} (hn : n = asked.length) {A B : Option Addr} {c d : Nat} {w : World} (hr : Rds w encP A l) (hra : Rds w encS B asked) (hl : l.length ≤ 50000) (ha : asked.length ≤ 50000) :
    Calls Tryz.prog 35 #[.slice A l.length c, .agg p.cells, .slice B n d] w fun e w' => ∃ z : Int, e = .returned (.int .i64 z) ∧ BestAt (fun v => mayV p v && !hasD asked v.id) l l.length z ∧ Below w.heap.size w w' := by subst hn; exact next_any p l asked A B c d w hr hra hl ha
def GivesRO (O : List ByteArray) (bb : Bool) (w : World) (e : Ending) (w' : World) : Prop := ∃ (A : Option Addr) (c : Nat), e = .returned (.tuple #[.slice A O.length c, .bool bb]) ∧ Own w' w.heap.size 9 encS (.slice A O.length c) O ∧ Below w.heap.size w w'
set_option maxRecDepth 100000 in
set_option maxHeartbeats 16000000 in
theorem refChooseO_any {room : S3} {p : Pd} {l : List Pd} {O : List ByteArray} {bb : Bool} (hF : FitV room l p) (hwho : WhoD room p l O bb) (Al : Option Addr) (cl : Nat) (w : World) (hr : Rds w encP Al l) (hw : ∀ x ∈ l, x.Wf) (hp : p.Wf) :
    Calls Tryz.prog 21 #[.agg #[.int .i64 room.a, .int .i64 room.b, .int .i64 room.c], .slice Al l.length cl, .agg p.cells] w (GivesRO O bb w) := by
  have mixed : Tryz.prog.follows Departure.mixedOrders = true := by kernel_rfl
  have HQ := Lib.hid (CQ.new room p w)
  have HR := Lib.hid hr
  have HRi := Lib.hid (hr.below HQ.out.bel)
  have HW := Lib.hid hw
  have HPW := Lib.hid hp
  have HINJ := Lib.hid hF.inj
  have HND := Lib.hid hF.nodup
  have hl := hF.len
  obtain ⟨K, hk, hs, hfs, ho1, ho2⟩ := hwho
  have HK := Lib.hid (And.intro hk hs)
  have HO := Lib.hid (And.intro ho1 ho2)
  clear hr hw hp hF hk hs ho1 ho2
  obtain ⟨va, hva⟩ : ∃ v, fitsB room (l ++ [p]) = v := ⟨_, rfl⟩
  have HWA := Lib.hid (show ∀ x ∈ l ++ [p], x.Wf from fun x hx => by
    rcases List.mem_append.1 hx with h | h
    · exact HW.out x h
    · rw [List.mem_singleton.1 h]; exact HPW.out)
  have HFS := Lib.hid hfs
  have HVA := Lib.hid hva
  clear hva hfs
  go_enter Tryz.func21, Tryz.ntmps21
  go_wp2_with fail
  generalize ((w.alloc (.cells #[.int .i64 room.a, .int .i64 room.b, .int .i64 room.c] 22)).alloc (.cells #[.string p.id, .int .i64 p.prio, .bool p.crit, .int .i64 p.q0, .int .i64 p.q1, .int .i64 p.q2, .int .i64 p.l0, .int .i64 p.l1, .int .i64 p.l2, .string p.image, .int .i64 p.size] 29)) = w1 at *
  cases va
  · have HWR := Lib.hid HWA.out
    have hBr : Below w1.heap.size w1 w1.drew := (Below.refl _ _).drew
    have HBr := Lib.hid hBr
    clear hBr
    go_cut [19] (fun v W0 => v = .bool false ∧ Below w1.heap.size w1 W0)
    case first =>
      have HQd := Lib.hid HQ.out.drew
      have HRd := Lib.hid HRi.out.drew
      refine wp_region_held_drew (S := (fun w' => w'.cell? ⟨w.heap.size, 0, none⟩ = some (.int .i64 room.a) ∧ w'.cell? ⟨w.heap.size, 1, none⟩ = some (.int .i64 room.b) ∧ w'.cell? ⟨w.heap.size, 2, none⟩ = some (.int .i64 room.c) ∧ w'.cell? ⟨w.heap.size + 1, 0, none⟩ = some (.string p.id) ∧ w'.cell? ⟨w.heap.size + 1, 1, none⟩ = some (.int .i64 p.prio) ∧ w'.cell? ⟨w.heap.size + 1, 2, none⟩ = some (.bool p.crit) ∧ w'.cell? ⟨w.heap.size + 1, 3, none⟩ = some (.int .i64 p.q0) ∧ w'.cell? ⟨w.heap.size + 1, 4, none⟩ = some (.int .i64 p.q1) ∧ w'.cell? ⟨w.heap.size + 1, 5, none⟩ = some (.int .i64 p.q2) ∧ w'.cell? ⟨w.heap.size + 1, 6, none⟩ = some (.int .i64 p.l0) ∧ w'.cell? ⟨w.heap.size + 1, 7, none⟩ = some (.int .i64 p.l1) ∧ w'.cell? ⟨w.heap.size + 1, 8, none⟩ = some (.int .i64 p.l2) ∧ w'.cell? ⟨w.heap.size + 1, 9, none⟩ = some (.string p.image) ∧ w'.cell? ⟨w.heap.size + 1, 10, none⟩ = some (.int .i64 p.size))) (by kernel_rfl) (rpCells HQd.out) (fun hHeld => ?_)
      generalize hwd : World.drew _ = wd at *
      clear hwd
      have hb0 : Below wd.heap.size wd wd := Below.refl _ _
      have HB := Lib.hid hb0
      clear hb0
      have HQ := HQd
      have HRi := HRd
      refine held_take 0 12 (.agg #[.int .i64 room.a, .int .i64 room.b, .int .i64 room.c]) rfl rfl (by kernel_rfl) (by kernel_rfl) (by kernel_rfl) (fun _ _ _ h => h) (by rfl) (by intro w' hSw; (try dsimp only at hSw); go_simp; (try (with_reducible rfl))) (by assumption) ?_
      simp only [Act.put, List.setIfInBounds_toArray, List.set_cons_zero, List.set_cons_succ]
      refine held_take 2 14 (.slice Al l.length cl) rfl rfl (by kernel_rfl) (by kernel_rfl) (by kernel_rfl) (fun _ _ _ h => h) (by rfl) (by intro w' hSw; (try dsimp only at hSw); go_simp; (try (with_reducible rfl))) (by assumption) ?_
      simp only [Act.put, List.setIfInBounds_toArray, List.set_cons_zero, List.set_cons_succ]
      refine held_take 4 16 (.agg #[.string p.id, .int .i64 p.prio, .bool p.crit, .int .i64 p.q0, .int .i64 p.q1, .int .i64 p.q2, .int .i64 p.l0, .int .i64 p.l1, .int .i64 p.l2, .string p.image, .int .i64 p.size]) rfl rfl (by kernel_rfl) (by kernel_rfl) (by kernel_rfl) (fun _ _ _ h => h) (by rfl) (by intro w' hSw; (try dsimp only at hSw); go_simp; (try (with_reducible rfl))) (by assumption) ?_
      simp only [Act.put, List.setIfInBounds_toArray, List.set_cons_zero, List.set_cons_succ]
      refine held_twoD 1 5 13 17 rfl rfl rfl rfl (by kernel_rfl) (by rfl) (by rfl) (fun K hK => ?_) (fun K hK => ?_)
      · go_simp
        have how := Own.made (wd) wd.heap.size 29 encP [] #[] rfl HB.out.size (by simp)
        have HOW := Lib.hid how
        clear how
        have HB := Lib.hid (HB.out.alloc HB.out.size (.cells #[] 29))
        have HQ := Lib.hid (HQd.out.below HB.out)
        have HRi := Lib.hid (HRd.out.below HB.out)
        refine hK _ _ (rpCells HQ.out) ?_
        have hHeld := (show ((wd).alloc (.cells #[] 29)).cell? ⟨w.heap.size, 0, none⟩ = some (.int .i64 room.a) ∧ ((wd).alloc (.cells #[] 29)).cell? ⟨w.heap.size, 1, none⟩ = some (.int .i64 room.b) ∧ ((wd).alloc (.cells #[] 29)).cell? ⟨w.heap.size, 2, none⟩ = some (.int .i64 room.c) ∧ ((wd).alloc (.cells #[] 29)).cell? ⟨w.heap.size + 1, 0, none⟩ = some (.string p.id) ∧ ((wd).alloc (.cells #[] 29)).cell? ⟨w.heap.size + 1, 1, none⟩ = some (.int .i64 p.prio) ∧ ((wd).alloc (.cells #[] 29)).cell? ⟨w.heap.size + 1, 2, none⟩ = some (.bool p.crit) ∧ ((wd).alloc (.cells #[] 29)).cell? ⟨w.heap.size + 1, 3, none⟩ = some (.int .i64 p.q0) ∧ ((wd).alloc (.cells #[] 29)).cell? ⟨w.heap.size + 1, 4, none⟩ = some (.int .i64 p.q1) ∧ ((wd).alloc (.cells #[] 29)).cell? ⟨w.heap.size + 1, 5, none⟩ = some (.int .i64 p.q2) ∧ ((wd).alloc (.cells #[] 29)).cell? ⟨w.heap.size + 1, 6, none⟩ = some (.int .i64 p.l0) ∧ ((wd).alloc (.cells #[] 29)).cell? ⟨w.heap.size + 1, 7, none⟩ = some (.int .i64 p.l1) ∧ ((wd).alloc (.cells #[] 29)).cell? ⟨w.heap.size + 1, 8, none⟩ = some (.int .i64 p.l2) ∧ ((wd).alloc (.cells #[] 29)).cell? ⟨w.heap.size + 1, 9, none⟩ = some (.string p.image) ∧ ((wd).alloc (.cells #[] 29)).cell? ⟨w.heap.size + 1, 10, none⟩ = some (.int .i64 p.size) from rpCells HQ.out)
        clear hK K
        simp only [Act.put, List.setIfInBounds_toArray, List.set_cons_zero, List.set_cons_succ]
        refine held_twoD 3 5 15 17 rfl rfl rfl rfl (by kernel_rfl) (by rfl) (by rfl) (fun K hK => ?_) (fun K hK => ?_)
        · refine wp_app (wd.alloc (.cells #[] 29)) elemP encP (.tmp 13) (.tmp 14) rfl wd.heap.size _ [] (by simp [Act.eval]) HOW.out Al l cl (by simp [Act.eval]) (HRd.out.below (HB.out.mono (by simp))) (by simp; omega) (by simp; omega) HB.out.size ?_
          intro A5 c5 w5 ho hg _
          have hb5 := HOW.out.belowGrown HB.out hg (Nat.le_refl _) HB.out.size
          have how : Own w5 wd.heap.size 29 encP (.slice A5 (l).length c5) l := by simpa using ho
          have HOW := Lib.hid how
          have HB := Lib.hid hb5
          clear ho how hg hb5
          have HQ := Lib.hid (HQd.out.below HB.out)
          have HRi := Lib.hid (HRd.out.below HB.out)
          simp only [List.length_nil, Nat.zero_add]
          refine hK _ _ (rpCells HQ.out) ?_
          have hHeld := (show w5.cell? ⟨w.heap.size, 0, none⟩ = some (.int .i64 room.a) ∧ w5.cell? ⟨w.heap.size, 1, none⟩ = some (.int .i64 room.b) ∧ w5.cell? ⟨w.heap.size, 2, none⟩ = some (.int .i64 room.c) ∧ w5.cell? ⟨w.heap.size + 1, 0, none⟩ = some (.string p.id) ∧ w5.cell? ⟨w.heap.size + 1, 1, none⟩ = some (.int .i64 p.prio) ∧ w5.cell? ⟨w.heap.size + 1, 2, none⟩ = some (.bool p.crit) ∧ w5.cell? ⟨w.heap.size + 1, 3, none⟩ = some (.int .i64 p.q0) ∧ w5.cell? ⟨w.heap.size + 1, 4, none⟩ = some (.int .i64 p.q1) ∧ w5.cell? ⟨w.heap.size + 1, 5, none⟩ = some (.int .i64 p.q2) ∧ w5.cell? ⟨w.heap.size + 1, 6, none⟩ = some (.int .i64 p.l0) ∧ w5.cell? ⟨w.heap.size + 1, 7, none⟩ = some (.int .i64 p.l1) ∧ w5.cell? ⟨w.heap.size + 1, 8, none⟩ = some (.int .i64 p.l2) ∧ w5.cell? ⟨w.heap.size + 1, 9, none⟩ = some (.string p.image) ∧ w5.cell? ⟨w.heap.size + 1, 10, none⟩ = some (.int .i64 p.size) from rpCells HQ.out)
          clear hK K
          simp only [Act.put, List.setIfInBounds_toArray, List.set_cons_zero, List.set_cons_succ]
          refine held_call 5 17 rfl rfl (by kernel_rfl) (by rfl) (fun K hK => ?_)
          go_simp
          have hrw := Rds.made (w5) encP [p] 29 #[.string p.id, .int .i64 p.prio, .bool p.crit, .int .i64 p.q0, .int .i64 p.q1, .int .i64 p.q2, .int .i64 p.l0, .int .i64 p.l1, .int .i64 p.l2, .string p.image, .int .i64 p.size] (0, 0) rfl
          have HOW := Lib.hid (HOW.out.alloc (.cells #[.string p.id, .int .i64 p.prio, .bool p.crit, .int .i64 p.q0, .int .i64 p.q1, .int .i64 p.q2, .int .i64 p.l0, .int .i64 p.l1, .int .i64 p.l2, .string p.image, .int .i64 p.size] 29))
          have HRW := Lib.hid hrw
          clear hrw
          have HB := Lib.hid (HB.out.alloc HB.out.size (.cells #[.string p.id, .int .i64 p.prio, .bool p.crit, .int .i64 p.q0, .int .i64 p.q1, .int .i64 p.q2, .int .i64 p.l0, .int .i64 p.l1, .int .i64 p.l2, .string p.image, .int .i64 p.size] 29))
          have HQ := Lib.hid (HQd.out.below HB.out)
          have HRi := Lib.hid (HRd.out.below HB.out)
          refine hK _ _ (rpCells HQ.out) ?_
          have hHeld := (show ((w5).alloc (.cells #[.string p.id, .int .i64 p.prio, .bool p.crit, .int .i64 p.q0, .int .i64 p.q1, .int .i64 p.q2, .int .i64 p.l0, .int .i64 p.l1, .int .i64 p.l2, .string p.image, .int .i64 p.size] 29)).cell? ⟨w.heap.size, 0, none⟩ = some (.int .i64 room.a) ∧ ((w5).alloc (.cells #[.string p.id, .int .i64 p.prio, .bool p.crit, .int .i64 p.q0, .int .i64 p.q1, .int .i64 p.q2, .int .i64 p.l0, .int .i64 p.l1, .int .i64 p.l2, .string p.image, .int .i64 p.size] 29)).cell? ⟨w.heap.size, 1, none⟩ = some (.int .i64 room.b) ∧ ((w5).alloc (.cells #[.string p.id, .int .i64 p.prio, .bool p.crit, .int .i64 p.q0, .int .i64 p.q1, .int .i64 p.q2, .int .i64 p.l0, .int .i64 p.l1, .int .i64 p.l2, .string p.image, .int .i64 p.size] 29)).cell? ⟨w.heap.size, 2, none⟩ = some (.int .i64 room.c) ∧ ((w5).alloc (.cells #[.string p.id, .int .i64 p.prio, .bool p.crit, .int .i64 p.q0, .int .i64 p.q1, .int .i64 p.q2, .int .i64 p.l0, .int .i64 p.l1, .int .i64 p.l2, .string p.image, .int .i64 p.size] 29)).cell? ⟨w.heap.size + 1, 0, none⟩ = some (.string p.id) ∧ ((w5).alloc (.cells #[.string p.id, .int .i64 p.prio, .bool p.crit, .int .i64 p.q0, .int .i64 p.q1, .int .i64 p.q2, .int .i64 p.l0, .int .i64 p.l1, .int .i64 p.l2, .string p.image, .int .i64 p.size] 29)).cell? ⟨w.heap.size + 1, 1, none⟩ = some (.int .i64 p.prio) ∧ ((w5).alloc (.cells #[.string p.id, .int .i64 p.prio, .bool p.crit, .int .i64 p.q0, .int .i64 p.q1, .int .i64 p.q2, .int .i64 p.l0, .int .i64 p.l1, .int .i64 p.l2, .string p.image, .int .i64 p.size] 29)).cell? ⟨w.heap.size + 1, 2, none⟩ = some (.bool p.crit) ∧ ((w5).alloc (.cells #[.string p.id, .int .i64 p.prio, .bool p.crit, .int .i64 p.q0, .int .i64 p.q1, .int .i64 p.q2, .int .i64 p.l0, .int .i64 p.l1, .int .i64 p.l2, .string p.image, .int .i64 p.size] 29)).cell? ⟨w.heap.size + 1, 3, none⟩ = some (.int .i64 p.q0) ∧ ((w5).alloc (.cells #[.string p.id, .int .i64 p.prio, .bool p.crit, .int .i64 p.q0, .int .i64 p.q1, .int .i64 p.q2, .int .i64 p.l0, .int .i64 p.l1, .int .i64 p.l2, .string p.image, .int .i64 p.size] 29)).cell? ⟨w.heap.size + 1, 4, none⟩ = some (.int .i64 p.q1) ∧ ((w5).alloc (.cells #[.string p.id, .int .i64 p.prio, .bool p.crit, .int .i64 p.q0, .int .i64 p.q1, .int .i64 p.q2, .int .i64 p.l0, .int .i64 p.l1, .int .i64 p.l2, .string p.image, .int .i64 p.size] 29)).cell? ⟨w.heap.size + 1, 5, none⟩ = some (.int .i64 p.q2) ∧ ((w5).alloc (.cells #[.string p.id, .int .i64 p.prio, .bool p.crit, .int .i64 p.q0, .int .i64 p.q1, .int .i64 p.q2, .int .i64 p.l0, .int .i64 p.l1, .int .i64 p.l2, .string p.image, .int .i64 p.size] 29)).cell? ⟨w.heap.size + 1, 6, none⟩ = some (.int .i64 p.l0) ∧ ((w5).alloc (.cells #[.string p.id, .int .i64 p.prio, .bool p.crit, .int .i64 p.q0, .int .i64 p.q1, .int .i64 p.q2, .int .i64 p.l0, .int .i64 p.l1, .int .i64 p.l2, .string p.image, .int .i64 p.size] 29)).cell? ⟨w.heap.size + 1, 7, none⟩ = some (.int .i64 p.l1) ∧ ((w5).alloc (.cells #[.string p.id, .int .i64 p.prio, .bool p.crit, .int .i64 p.q0, .int .i64 p.q1, .int .i64 p.q2, .int .i64 p.l0, .int .i64 p.l1, .int .i64 p.l2, .string p.image, .int .i64 p.size] 29)).cell? ⟨w.heap.size + 1, 8, none⟩ = some (.int .i64 p.l2) ∧ ((w5).alloc (.cells #[.string p.id, .int .i64 p.prio, .bool p.crit, .int .i64 p.q0, .int .i64 p.q1, .int .i64 p.q2, .int .i64 p.l0, .int .i64 p.l1, .int .i64 p.l2, .string p.image, .int .i64 p.size] 29)).cell? ⟨w.heap.size + 1, 9, none⟩ = some (.string p.image) ∧ ((w5).alloc (.cells #[.string p.id, .int .i64 p.prio, .bool p.crit, .int .i64 p.q0, .int .i64 p.q1, .int .i64 p.q2, .int .i64 p.l0, .int .i64 p.l1, .int .i64 p.l2, .string p.image, .int .i64 p.size] 29)).cell? ⟨w.heap.size + 1, 10, none⟩ = some (.int .i64 p.size) from rpCells HQ.out)
          clear hK K
          simp only [Act.put, List.setIfInBounds_toArray, List.set_cons_zero, List.set_cons_succ]
          refine held_call 6 18 rfl rfl (by kernel_rfl) (by rfl) (fun K hK => ?_)
          refine wp_app (w5.alloc (.cells #[.string p.id, .int .i64 p.prio, .bool p.crit, .int .i64 p.q0, .int .i64 p.q1, .int .i64 p.q2, .int .i64 p.l0, .int .i64 p.l1, .int .i64 p.l2, .string p.image, .int .i64 p.size] 29)) elemP encP (.tmp 15) (.tmp 17) rfl wd.heap.size _ l (by simp [Act.eval]) HOW.out _ [p] 1 (by simp [Act.eval]) HRW.out (by simp; omega) (by simp; omega) HB.out.size ?_
          intro A7 c7 w7 ho hg _
          have hb7 := HOW.out.belowGrown HB.out hg (Nat.le_refl _) HB.out.size
          have HOW := Lib.hid ho
          have HB := Lib.hid hb7
          clear ho hg hb7
          have HQ := Lib.hid (HQd.out.below HB.out)
          have HRi := Lib.hid (HRd.out.below HB.out)
          refine hK _ _ (rpCells HQ.out) ?_
          have hHeld := (show w7.cell? ⟨w.heap.size, 0, none⟩ = some (.int .i64 room.a) ∧ w7.cell? ⟨w.heap.size, 1, none⟩ = some (.int .i64 room.b) ∧ w7.cell? ⟨w.heap.size, 2, none⟩ = some (.int .i64 room.c) ∧ w7.cell? ⟨w.heap.size + 1, 0, none⟩ = some (.string p.id) ∧ w7.cell? ⟨w.heap.size + 1, 1, none⟩ = some (.int .i64 p.prio) ∧ w7.cell? ⟨w.heap.size + 1, 2, none⟩ = some (.bool p.crit) ∧ w7.cell? ⟨w.heap.size + 1, 3, none⟩ = some (.int .i64 p.q0) ∧ w7.cell? ⟨w.heap.size + 1, 4, none⟩ = some (.int .i64 p.q1) ∧ w7.cell? ⟨w.heap.size + 1, 5, none⟩ = some (.int .i64 p.q2) ∧ w7.cell? ⟨w.heap.size + 1, 6, none⟩ = some (.int .i64 p.l0) ∧ w7.cell? ⟨w.heap.size + 1, 7, none⟩ = some (.int .i64 p.l1) ∧ w7.cell? ⟨w.heap.size + 1, 8, none⟩ = some (.int .i64 p.l2) ∧ w7.cell? ⟨w.heap.size + 1, 9, none⟩ = some (.string p.image) ∧ w7.cell? ⟨w.heap.size + 1, 10, none⟩ = some (.int .i64 p.size) from rpCells HQ.out)
          clear hK K
          simp only [Act.put, List.setIfInBounds_toArray, List.set_cons_zero, List.set_cons_succ]
          refine held_call 7 19 rfl rfl (by kernel_rfl) (by rfl) (fun K hK => ?_)
          go_simp
          have HO7 := Lib.hid (show Rds w7 encP A7 (l ++ [p]) from HOW.out.toRds)
          go_at_call 33; with_reducible refine (refFitsN (show l.length + 1 = (l ++ [p]).length by simp) HVA.out HO7.out HWA.out (by simp; omega)).mono ?_; rintro e w9 ⟨rfl, hb⟩
          have HB := Lib.hid (below_rV HB.out hb)
          have HQ := Lib.hid (HQd.out.below HB.out)
          have HRi := Lib.hid (HRd.out.below HB.out)
          clear hb
          refine hK _ _ (rpCells HQ.out) ?_
          have hHeld := (show w9.cell? ⟨w.heap.size, 0, none⟩ = some (.int .i64 room.a) ∧ w9.cell? ⟨w.heap.size, 1, none⟩ = some (.int .i64 room.b) ∧ w9.cell? ⟨w.heap.size, 2, none⟩ = some (.int .i64 room.c) ∧ w9.cell? ⟨w.heap.size + 1, 0, none⟩ = some (.string p.id) ∧ w9.cell? ⟨w.heap.size + 1, 1, none⟩ = some (.int .i64 p.prio) ∧ w9.cell? ⟨w.heap.size + 1, 2, none⟩ = some (.bool p.crit) ∧ w9.cell? ⟨w.heap.size + 1, 3, none⟩ = some (.int .i64 p.q0) ∧ w9.cell? ⟨w.heap.size + 1, 4, none⟩ = some (.int .i64 p.q1) ∧ w9.cell? ⟨w.heap.size + 1, 5, none⟩ = some (.int .i64 p.q2) ∧ w9.cell? ⟨w.heap.size + 1, 6, none⟩ = some (.int .i64 p.l0) ∧ w9.cell? ⟨w.heap.size + 1, 7, none⟩ = some (.int .i64 p.l1) ∧ w9.cell? ⟨w.heap.size + 1, 8, none⟩ = some (.int .i64 p.l2) ∧ w9.cell? ⟨w.heap.size + 1, 9, none⟩ = some (.string p.image) ∧ w9.cell? ⟨w.heap.size + 1, 10, none⟩ = some (.int .i64 p.size) from rpCells HQ.out)
          clear hK K
          simp only [Act.put, List.setIfInBounds_toArray, List.set_cons_zero, List.set_cons_succ]
          refine wpAnyH_done (by kernel_rfl) ?_ _
          clear hHeld
          go_wp2_with fail
          go_meet
          exact ⟨rfl, below_rV HBr.out HB.out⟩
        · go_simp
          have hrw := Rds.made (wd.alloc (.cells #[] 29)) encP [p] 29 #[.string p.id, .int .i64 p.prio, .bool p.crit, .int .i64 p.q0, .int .i64 p.q1, .int .i64 p.q2, .int .i64 p.l0, .int .i64 p.l1, .int .i64 p.l2, .string p.image, .int .i64 p.size] (0, 0) rfl
          rw [show (wd.alloc (.cells #[] 29)).heap.size = wd.heap.size + 1 from by simp] at hrw
          have HOW := Lib.hid (HOW.out.alloc (.cells #[.string p.id, .int .i64 p.prio, .bool p.crit, .int .i64 p.q0, .int .i64 p.q1, .int .i64 p.q2, .int .i64 p.l0, .int .i64 p.l1, .int .i64 p.l2, .string p.image, .int .i64 p.size] 29))
          have HRW := Lib.hid hrw
          clear hrw
          have HB := Lib.hid (HB.out.alloc HB.out.size (.cells #[.string p.id, .int .i64 p.prio, .bool p.crit, .int .i64 p.q0, .int .i64 p.q1, .int .i64 p.q2, .int .i64 p.l0, .int .i64 p.l1, .int .i64 p.l2, .string p.image, .int .i64 p.size] 29))
          have HQ := Lib.hid (HQd.out.below HB.out)
          have HRi := Lib.hid (HRd.out.below HB.out)
          refine hK _ _ (rpCells HQ.out) ?_
          have hHeld := (show ((wd.alloc (.cells #[] 29)).alloc (.cells #[.string p.id, .int .i64 p.prio, .bool p.crit, .int .i64 p.q0, .int .i64 p.q1, .int .i64 p.q2, .int .i64 p.l0, .int .i64 p.l1, .int .i64 p.l2, .string p.image, .int .i64 p.size] 29)).cell? ⟨w.heap.size, 0, none⟩ = some (.int .i64 room.a) ∧ ((wd.alloc (.cells #[] 29)).alloc (.cells #[.string p.id, .int .i64 p.prio, .bool p.crit, .int .i64 p.q0, .int .i64 p.q1, .int .i64 p.q2, .int .i64 p.l0, .int .i64 p.l1, .int .i64 p.l2, .string p.image, .int .i64 p.size] 29)).cell? ⟨w.heap.size, 1, none⟩ = some (.int .i64 room.b) ∧ ((wd.alloc (.cells #[] 29)).alloc (.cells #[.string p.id, .int .i64 p.prio, .bool p.crit, .int .i64 p.q0, .int .i64 p.q1, .int .i64 p.q2, .int .i64 p.l0, .int .i64 p.l1, .int .i64 p.l2, .string p.image, .int .i64 p.size] 29)).cell? ⟨w.heap.size, 2, none⟩ = some (.int .i64 room.c) ∧ ((wd.alloc (.cells #[] 29)).alloc (.cells #[.string p.id, .int .i64 p.prio, .bool p.crit, .int .i64 p.q0, .int .i64 p.q1, .int .i64 p.q2, .int .i64 p.l0, .int .i64 p.l1, .int .i64 p.l2, .string p.image, .int .i64 p.size] 29)).cell? ⟨w.heap.size + 1, 0, none⟩ = some (.string p.id) ∧ ((wd.alloc (.cells #[] 29)).alloc (.cells #[.string p.id, .int .i64 p.prio, .bool p.crit, .int .i64 p.q0, .int .i64 p.q1, .int .i64 p.q2, .int .i64 p.l0, .int .i64 p.l1, .int .i64 p.l2, .string p.image, .int .i64 p.size] 29)).cell? ⟨w.heap.size + 1, 1, none⟩ = some (.int .i64 p.prio) ∧ ((wd.alloc (.cells #[] 29)).alloc (.cells #[.string p.id, .int .i64 p.prio, .bool p.crit, .int .i64 p.q0, .int .i64 p.q1, .int .i64 p.q2, .int .i64 p.l0, .int .i64 p.l1, .int .i64 p.l2, .string p.image, .int .i64 p.size] 29)).cell? ⟨w.heap.size + 1, 2, none⟩ = some (.bool p.crit) ∧ ((wd.alloc (.cells #[] 29)).alloc (.cells #[.string p.id, .int .i64 p.prio, .bool p.crit, .int .i64 p.q0, .int .i64 p.q1, .int .i64 p.q2, .int .i64 p.l0, .int .i64 p.l1, .int .i64 p.l2, .string p.image, .int .i64 p.size] 29)).cell? ⟨w.heap.size + 1, 3, none⟩ = some (.int .i64 p.q0) ∧ ((wd.alloc (.cells #[] 29)).alloc (.cells #[.string p.id, .int .i64 p.prio, .bool p.crit, .int .i64 p.q0, .int .i64 p.q1, .int .i64 p.q2, .int .i64 p.l0, .int .i64 p.l1, .int .i64 p.l2, .string p.image, .int .i64 p.size] 29)).cell? ⟨w.heap.size + 1, 4, none⟩ = some (.int .i64 p.q1) ∧ ((wd.alloc (.cells #[] 29)).alloc (.cells #[.string p.id, .int .i64 p.prio, .bool p.crit, .int .i64 p.q0, .int .i64 p.q1, .int .i64 p.q2, .int .i64 p.l0, .int .i64 p.l1, .int .i64 p.l2, .string p.image, .int .i64 p.size] 29)).cell? ⟨w.heap.size + 1, 5, none⟩ = some (.int .i64 p.q2) ∧ ((wd.alloc (.cells #[] 29)).alloc (.cells #[.string p.id, .int .i64 p.prio, .bool p.crit, .int .i64 p.q0, .int .i64 p.q1, .int .i64 p.q2, .int .i64 p.l0, .int .i64 p.l1, .int .i64 p.l2, .string p.image, .int .i64 p.size] 29)).cell? ⟨w.heap.size + 1, 6, none⟩ = some (.int .i64 p.l0) ∧ ((wd.alloc (.cells #[] 29)).alloc (.cells #[.string p.id, .int .i64 p.prio, .bool p.crit, .int .i64 p.q0, .int .i64 p.q1, .int .i64 p.q2, .int .i64 p.l0, .int .i64 p.l1, .int .i64 p.l2, .string p.image, .int .i64 p.size] 29)).cell? ⟨w.heap.size + 1, 7, none⟩ = some (.int .i64 p.l1) ∧ ((wd.alloc (.cells #[] 29)).alloc (.cells #[.string p.id, .int .i64 p.prio, .bool p.crit, .int .i64 p.q0, .int .i64 p.q1, .int .i64 p.q2, .int .i64 p.l0, .int .i64 p.l1, .int .i64 p.l2, .string p.image, .int .i64 p.size] 29)).cell? ⟨w.heap.size + 1, 8, none⟩ = some (.int .i64 p.l2) ∧ ((wd.alloc (.cells #[] 29)).alloc (.cells #[.string p.id, .int .i64 p.prio, .bool p.crit, .int .i64 p.q0, .int .i64 p.q1, .int .i64 p.q2, .int .i64 p.l0, .int .i64 p.l1, .int .i64 p.l2, .string p.image, .int .i64 p.size] 29)).cell? ⟨w.heap.size + 1, 9, none⟩ = some (.string p.image) ∧ ((wd.alloc (.cells #[] 29)).alloc (.cells #[.string p.id, .int .i64 p.prio, .bool p.crit, .int .i64 p.q0, .int .i64 p.q1, .int .i64 p.q2, .int .i64 p.l0, .int .i64 p.l1, .int .i64 p.l2, .string p.image, .int .i64 p.size] 29)).cell? ⟨w.heap.size + 1, 10, none⟩ = some (.int .i64 p.size) from rpCells HQ.out)
          clear hK K
          simp only [Act.put, List.setIfInBounds_toArray, List.set_cons_zero, List.set_cons_succ]
          refine held_call 3 15 rfl rfl (by kernel_rfl) (by rfl) (fun K hK => ?_)
          refine wp_app ((wd.alloc (.cells #[] 29)).alloc (.cells #[.string p.id, .int .i64 p.prio, .bool p.crit, .int .i64 p.q0, .int .i64 p.q1, .int .i64 p.q2, .int .i64 p.l0, .int .i64 p.l1, .int .i64 p.l2, .string p.image, .int .i64 p.size] 29)) elemP encP (.tmp 13) (.tmp 14) rfl wd.heap.size _ [] (by simp [Act.eval]) HOW.out Al l cl (by simp [Act.eval]) (HRd.out.below (HB.out.mono (by simp))) (by simp; omega) (by simp; omega) HB.out.size ?_
          intro A5 c5 w5 ho hg _
          have hb5 := HOW.out.belowGrown HB.out hg (Nat.le_refl _) HB.out.size
          have HRW := Lib.hid (HRW.out.grownN hg (by simp [Value.ownBlock]))
          have how : Own w5 wd.heap.size 29 encP (.slice A5 (l).length c5) l := by simpa using ho
          have HOW := Lib.hid how
          have HB := Lib.hid hb5
          clear ho how hg hb5
          have HQ := Lib.hid (HQd.out.below HB.out)
          have HRi := Lib.hid (HRd.out.below HB.out)
          simp only [List.length_nil, Nat.zero_add]
          refine hK _ _ (rpCells HQ.out) ?_
          have hHeld := (show w5.cell? ⟨w.heap.size, 0, none⟩ = some (.int .i64 room.a) ∧ w5.cell? ⟨w.heap.size, 1, none⟩ = some (.int .i64 room.b) ∧ w5.cell? ⟨w.heap.size, 2, none⟩ = some (.int .i64 room.c) ∧ w5.cell? ⟨w.heap.size + 1, 0, none⟩ = some (.string p.id) ∧ w5.cell? ⟨w.heap.size + 1, 1, none⟩ = some (.int .i64 p.prio) ∧ w5.cell? ⟨w.heap.size + 1, 2, none⟩ = some (.bool p.crit) ∧ w5.cell? ⟨w.heap.size + 1, 3, none⟩ = some (.int .i64 p.q0) ∧ w5.cell? ⟨w.heap.size + 1, 4, none⟩ = some (.int .i64 p.q1) ∧ w5.cell? ⟨w.heap.size + 1, 5, none⟩ = some (.int .i64 p.q2) ∧ w5.cell? ⟨w.heap.size + 1, 6, none⟩ = some (.int .i64 p.l0) ∧ w5.cell? ⟨w.heap.size + 1, 7, none⟩ = some (.int .i64 p.l1) ∧ w5.cell? ⟨w.heap.size + 1, 8, none⟩ = some (.int .i64 p.l2) ∧ w5.cell? ⟨w.heap.size + 1, 9, none⟩ = some (.string p.image) ∧ w5.cell? ⟨w.heap.size + 1, 10, none⟩ = some (.int .i64 p.size) from rpCells HQ.out)
          clear hK K
          simp only [Act.put, List.setIfInBounds_toArray, List.set_cons_zero, List.set_cons_succ]
          refine held_call 6 18 rfl rfl (by kernel_rfl) (by rfl) (fun K hK => ?_)
          refine wp_app (w5) elemP encP (.tmp 15) (.tmp 17) rfl wd.heap.size _ l (by simp [Act.eval]) HOW.out _ [p] 1 (by simp [Act.eval]) HRW.out (by simp; omega) (by simp; omega) HB.out.size ?_
          intro A7 c7 w7 ho hg _
          have hb7 := HOW.out.belowGrown HB.out hg (Nat.le_refl _) HB.out.size
          have HOW := Lib.hid ho
          have HB := Lib.hid hb7
          clear ho hg hb7
          have HQ := Lib.hid (HQd.out.below HB.out)
          have HRi := Lib.hid (HRd.out.below HB.out)
          refine hK _ _ (rpCells HQ.out) ?_
          have hHeld := (show w7.cell? ⟨w.heap.size, 0, none⟩ = some (.int .i64 room.a) ∧ w7.cell? ⟨w.heap.size, 1, none⟩ = some (.int .i64 room.b) ∧ w7.cell? ⟨w.heap.size, 2, none⟩ = some (.int .i64 room.c) ∧ w7.cell? ⟨w.heap.size + 1, 0, none⟩ = some (.string p.id) ∧ w7.cell? ⟨w.heap.size + 1, 1, none⟩ = some (.int .i64 p.prio) ∧ w7.cell? ⟨w.heap.size + 1, 2, none⟩ = some (.bool p.crit) ∧ w7.cell? ⟨w.heap.size + 1, 3, none⟩ = some (.int .i64 p.q0) ∧ w7.cell? ⟨w.heap.size + 1, 4, none⟩ = some (.int .i64 p.q1) ∧ w7.cell? ⟨w.heap.size + 1, 5, none⟩ = some (.int .i64 p.q2) ∧ w7.cell? ⟨w.heap.size + 1, 6, none⟩ = some (.int .i64 p.l0) ∧ w7.cell? ⟨w.heap.size + 1, 7, none⟩ = some (.int .i64 p.l1) ∧ w7.cell? ⟨w.heap.size + 1, 8, none⟩ = some (.int .i64 p.l2) ∧ w7.cell? ⟨w.heap.size + 1, 9, none⟩ = some (.string p.image) ∧ w7.cell? ⟨w.heap.size + 1, 10, none⟩ = some (.int .i64 p.size) from rpCells HQ.out)
          clear hK K
          simp only [Act.put, List.setIfInBounds_toArray, List.set_cons_zero, List.set_cons_succ]
          refine held_call 7 19 rfl rfl (by kernel_rfl) (by rfl) (fun K hK => ?_)
          go_simp
          have HO7 := Lib.hid (show Rds w7 encP A7 (l ++ [p]) from HOW.out.toRds)
          go_at_call 33; with_reducible refine (refFitsN (show l.length + 1 = (l ++ [p]).length by simp) HVA.out HO7.out HWA.out (by simp; omega)).mono ?_; rintro e w9 ⟨rfl, hb⟩
          have HB := Lib.hid (below_rV HB.out hb)
          have HQ := Lib.hid (HQd.out.below HB.out)
          have HRi := Lib.hid (HRd.out.below HB.out)
          clear hb
          refine hK _ _ (rpCells HQ.out) ?_
          have hHeld := (show w9.cell? ⟨w.heap.size, 0, none⟩ = some (.int .i64 room.a) ∧ w9.cell? ⟨w.heap.size, 1, none⟩ = some (.int .i64 room.b) ∧ w9.cell? ⟨w.heap.size, 2, none⟩ = some (.int .i64 room.c) ∧ w9.cell? ⟨w.heap.size + 1, 0, none⟩ = some (.string p.id) ∧ w9.cell? ⟨w.heap.size + 1, 1, none⟩ = some (.int .i64 p.prio) ∧ w9.cell? ⟨w.heap.size + 1, 2, none⟩ = some (.bool p.crit) ∧ w9.cell? ⟨w.heap.size + 1, 3, none⟩ = some (.int .i64 p.q0) ∧ w9.cell? ⟨w.heap.size + 1, 4, none⟩ = some (.int .i64 p.q1) ∧ w9.cell? ⟨w.heap.size + 1, 5, none⟩ = some (.int .i64 p.q2) ∧ w9.cell? ⟨w.heap.size + 1, 6, none⟩ = some (.int .i64 p.l0) ∧ w9.cell? ⟨w.heap.size + 1, 7, none⟩ = some (.int .i64 p.l1) ∧ w9.cell? ⟨w.heap.size + 1, 8, none⟩ = some (.int .i64 p.l2) ∧ w9.cell? ⟨w.heap.size + 1, 9, none⟩ = some (.string p.image) ∧ w9.cell? ⟨w.heap.size + 1, 10, none⟩ = some (.int .i64 p.size) from rpCells HQ.out)
          clear hK K
          simp only [Act.put, List.setIfInBounds_toArray, List.set_cons_zero, List.set_cons_succ]
          refine wpAnyH_done (by kernel_rfl) ?_ _
          clear hHeld
          go_wp2_with fail
          go_meet
          exact ⟨rfl, below_rV HBr.out HB.out⟩
      · go_simp
        have hrw := Rds.made (wd) encP [p] 29 #[.string p.id, .int .i64 p.prio, .bool p.crit, .int .i64 p.q0, .int .i64 p.q1, .int .i64 p.q2, .int .i64 p.l0, .int .i64 p.l1, .int .i64 p.l2, .string p.image, .int .i64 p.size] (0, 0) rfl
        have HRW := Lib.hid hrw
        clear hrw
        have HB := Lib.hid (HB.out.alloc HB.out.size (.cells #[.string p.id, .int .i64 p.prio, .bool p.crit, .int .i64 p.q0, .int .i64 p.q1, .int .i64 p.q2, .int .i64 p.l0, .int .i64 p.l1, .int .i64 p.l2, .string p.image, .int .i64 p.size] 29))
        have HQ := Lib.hid (HQd.out.below HB.out)
        have HRi := Lib.hid (HRd.out.below HB.out)
        refine hK _ _ (rpCells HQ.out) ?_
        have hHeld := (show ((wd).alloc (.cells #[.string p.id, .int .i64 p.prio, .bool p.crit, .int .i64 p.q0, .int .i64 p.q1, .int .i64 p.q2, .int .i64 p.l0, .int .i64 p.l1, .int .i64 p.l2, .string p.image, .int .i64 p.size] 29)).cell? ⟨w.heap.size, 0, none⟩ = some (.int .i64 room.a) ∧ ((wd).alloc (.cells #[.string p.id, .int .i64 p.prio, .bool p.crit, .int .i64 p.q0, .int .i64 p.q1, .int .i64 p.q2, .int .i64 p.l0, .int .i64 p.l1, .int .i64 p.l2, .string p.image, .int .i64 p.size] 29)).cell? ⟨w.heap.size, 1, none⟩ = some (.int .i64 room.b) ∧ ((wd).alloc (.cells #[.string p.id, .int .i64 p.prio, .bool p.crit, .int .i64 p.q0, .int .i64 p.q1, .int .i64 p.q2, .int .i64 p.l0, .int .i64 p.l1, .int .i64 p.l2, .string p.image, .int .i64 p.size] 29)).cell? ⟨w.heap.size, 2, none⟩ = some (.int .i64 room.c) ∧ ((wd).alloc (.cells #[.string p.id, .int .i64 p.prio, .bool p.crit, .int .i64 p.q0, .int .i64 p.q1, .int .i64 p.q2, .int .i64 p.l0, .int .i64 p.l1, .int .i64 p.l2, .string p.image, .int .i64 p.size] 29)).cell? ⟨w.heap.size + 1, 0, none⟩ = some (.string p.id) ∧ ((wd).alloc (.cells #[.string p.id, .int .i64 p.prio, .bool p.crit, .int .i64 p.q0, .int .i64 p.q1, .int .i64 p.q2, .int .i64 p.l0, .int .i64 p.l1, .int .i64 p.l2, .string p.image, .int .i64 p.size] 29)).cell? ⟨w.heap.size + 1, 1, none⟩ = some (.int .i64 p.prio) ∧ ((wd).alloc (.cells #[.string p.id, .int .i64 p.prio, .bool p.crit, .int .i64 p.q0, .int .i64 p.q1, .int .i64 p.q2, .int .i64 p.l0, .int .i64 p.l1, .int .i64 p.l2, .string p.image, .int .i64 p.size] 29)).cell? ⟨w.heap.size + 1, 2, none⟩ = some (.bool p.crit) ∧ ((wd).alloc (.cells #[.string p.id, .int .i64 p.prio, .bool p.crit, .int .i64 p.q0, .int .i64 p.q1, .int .i64 p.q2, .int .i64 p.l0, .int .i64 p.l1, .int .i64 p.l2, .string p.image, .int .i64 p.size] 29)).cell? ⟨w.heap.size + 1, 3, none⟩ = some (.int .i64 p.q0) ∧ ((wd).alloc (.cells #[.string p.id, .int .i64 p.prio, .bool p.crit, .int .i64 p.q0, .int .i64 p.q1, .int .i64 p.q2, .int .i64 p.l0, .int .i64 p.l1, .int .i64 p.l2, .string p.image, .int .i64 p.size] 29)).cell? ⟨w.heap.size + 1, 4, none⟩ = some (.int .i64 p.q1) ∧ ((wd).alloc (.cells #[.string p.id, .int .i64 p.prio, .bool p.crit, .int .i64 p.q0, .int .i64 p.q1, .int .i64 p.q2, .int .i64 p.l0, .int .i64 p.l1, .int .i64 p.l2, .string p.image, .int .i64 p.size] 29)).cell? ⟨w.heap.size + 1, 5, none⟩ = some (.int .i64 p.q2) ∧ ((wd).alloc (.cells #[.string p.id, .int .i64 p.prio, .bool p.crit, .int .i64 p.q0, .int .i64 p.q1, .int .i64 p.q2, .int .i64 p.l0, .int .i64 p.l1, .int .i64 p.l2, .string p.image, .int .i64 p.size] 29)).cell? ⟨w.heap.size + 1, 6, none⟩ = some (.int .i64 p.l0) ∧ ((wd).alloc (.cells #[.string p.id, .int .i64 p.prio, .bool p.crit, .int .i64 p.q0, .int .i64 p.q1, .int .i64 p.q2, .int .i64 p.l0, .int .i64 p.l1, .int .i64 p.l2, .string p.image, .int .i64 p.size] 29)).cell? ⟨w.heap.size + 1, 7, none⟩ = some (.int .i64 p.l1) ∧ ((wd).alloc (.cells #[.string p.id, .int .i64 p.prio, .bool p.crit, .int .i64 p.q0, .int .i64 p.q1, .int .i64 p.q2, .int .i64 p.l0, .int .i64 p.l1, .int .i64 p.l2, .string p.image, .int .i64 p.size] 29)).cell? ⟨w.heap.size + 1, 8, none⟩ = some (.int .i64 p.l2) ∧ ((wd).alloc (.cells #[.string p.id, .int .i64 p.prio, .bool p.crit, .int .i64 p.q0, .int .i64 p.q1, .int .i64 p.q2, .int .i64 p.l0, .int .i64 p.l1, .int .i64 p.l2, .string p.image, .int .i64 p.size] 29)).cell? ⟨w.heap.size + 1, 9, none⟩ = some (.string p.image) ∧ ((wd).alloc (.cells #[.string p.id, .int .i64 p.prio, .bool p.crit, .int .i64 p.q0, .int .i64 p.q1, .int .i64 p.q2, .int .i64 p.l0, .int .i64 p.l1, .int .i64 p.l2, .string p.image, .int .i64 p.size] 29)).cell? ⟨w.heap.size + 1, 10, none⟩ = some (.int .i64 p.size) from rpCells HQ.out)
        clear hK K
        simp only [Act.put, List.setIfInBounds_toArray, List.set_cons_zero, List.set_cons_succ]
        refine held_call 1 13 rfl rfl (by kernel_rfl) (by rfl) (fun K hK => ?_)
        go_simp
        have how := Own.made (wd.alloc (.cells #[.string p.id, .int .i64 p.prio, .bool p.crit, .int .i64 p.q0, .int .i64 p.q1, .int .i64 p.q2, .int .i64 p.l0, .int .i64 p.l1, .int .i64 p.l2, .string p.image, .int .i64 p.size] 29)) wd.heap.size 29 encP [] #[] rfl HB.out.size (by simp)
        rw [show (wd.alloc (.cells #[.string p.id, .int .i64 p.prio, .bool p.crit, .int .i64 p.q0, .int .i64 p.q1, .int .i64 p.q2, .int .i64 p.l0, .int .i64 p.l1, .int .i64 p.l2, .string p.image, .int .i64 p.size] 29)).heap.size = wd.heap.size + 1 from by simp] at how
        have HRW := Lib.hid (HRW.out.alloc (.cells #[] 29))
        have HOW := Lib.hid how
        clear how
        have HB := Lib.hid (HB.out.alloc HB.out.size (.cells #[] 29))
        have HQ := Lib.hid (HQd.out.below HB.out)
        have HRi := Lib.hid (HRd.out.below HB.out)
        refine hK _ _ (rpCells HQ.out) ?_
        have hHeld := (show ((wd.alloc (.cells #[.string p.id, .int .i64 p.prio, .bool p.crit, .int .i64 p.q0, .int .i64 p.q1, .int .i64 p.q2, .int .i64 p.l0, .int .i64 p.l1, .int .i64 p.l2, .string p.image, .int .i64 p.size] 29)).alloc (.cells #[] 29)).cell? ⟨w.heap.size, 0, none⟩ = some (.int .i64 room.a) ∧ ((wd.alloc (.cells #[.string p.id, .int .i64 p.prio, .bool p.crit, .int .i64 p.q0, .int .i64 p.q1, .int .i64 p.q2, .int .i64 p.l0, .int .i64 p.l1, .int .i64 p.l2, .string p.image, .int .i64 p.size] 29)).alloc (.cells #[] 29)).cell? ⟨w.heap.size, 1, none⟩ = some (.int .i64 room.b) ∧ ((wd.alloc (.cells #[.string p.id, .int .i64 p.prio, .bool p.crit, .int .i64 p.q0, .int .i64 p.q1, .int .i64 p.q2, .int .i64 p.l0, .int .i64 p.l1, .int .i64 p.l2, .string p.image, .int .i64 p.size] 29)).alloc (.cells #[] 29)).cell? ⟨w.heap.size, 2, none⟩ = some (.int .i64 room.c) ∧ ((wd.alloc (.cells #[.string p.id, .int .i64 p.prio, .bool p.crit, .int .i64 p.q0, .int .i64 p.q1, .int .i64 p.q2, .int .i64 p.l0, .int .i64 p.l1, .int .i64 p.l2, .string p.image, .int .i64 p.size] 29)).alloc (.cells #[] 29)).cell? ⟨w.heap.size + 1, 0, none⟩ = some (.string p.id) ∧ ((wd.alloc (.cells #[.string p.id, .int .i64 p.prio, .bool p.crit, .int .i64 p.q0, .int .i64 p.q1, .int .i64 p.q2, .int .i64 p.l0, .int .i64 p.l1, .int .i64 p.l2, .string p.image, .int .i64 p.size] 29)).alloc (.cells #[] 29)).cell? ⟨w.heap.size + 1, 1, none⟩ = some (.int .i64 p.prio) ∧ ((wd.alloc (.cells #[.string p.id, .int .i64 p.prio, .bool p.crit, .int .i64 p.q0, .int .i64 p.q1, .int .i64 p.q2, .int .i64 p.l0, .int .i64 p.l1, .int .i64 p.l2, .string p.image, .int .i64 p.size] 29)).alloc (.cells #[] 29)).cell? ⟨w.heap.size + 1, 2, none⟩ = some (.bool p.crit) ∧ ((wd.alloc (.cells #[.string p.id, .int .i64 p.prio, .bool p.crit, .int .i64 p.q0, .int .i64 p.q1, .int .i64 p.q2, .int .i64 p.l0, .int .i64 p.l1, .int .i64 p.l2, .string p.image, .int .i64 p.size] 29)).alloc (.cells #[] 29)).cell? ⟨w.heap.size + 1, 3, none⟩ = some (.int .i64 p.q0) ∧ ((wd.alloc (.cells #[.string p.id, .int .i64 p.prio, .bool p.crit, .int .i64 p.q0, .int .i64 p.q1, .int .i64 p.q2, .int .i64 p.l0, .int .i64 p.l1, .int .i64 p.l2, .string p.image, .int .i64 p.size] 29)).alloc (.cells #[] 29)).cell? ⟨w.heap.size + 1, 4, none⟩ = some (.int .i64 p.q1) ∧ ((wd.alloc (.cells #[.string p.id, .int .i64 p.prio, .bool p.crit, .int .i64 p.q0, .int .i64 p.q1, .int .i64 p.q2, .int .i64 p.l0, .int .i64 p.l1, .int .i64 p.l2, .string p.image, .int .i64 p.size] 29)).alloc (.cells #[] 29)).cell? ⟨w.heap.size + 1, 5, none⟩ = some (.int .i64 p.q2) ∧ ((wd.alloc (.cells #[.string p.id, .int .i64 p.prio, .bool p.crit, .int .i64 p.q0, .int .i64 p.q1, .int .i64 p.q2, .int .i64 p.l0, .int .i64 p.l1, .int .i64 p.l2, .string p.image, .int .i64 p.size] 29)).alloc (.cells #[] 29)).cell? ⟨w.heap.size + 1, 6, none⟩ = some (.int .i64 p.l0) ∧ ((wd.alloc (.cells #[.string p.id, .int .i64 p.prio, .bool p.crit, .int .i64 p.q0, .int .i64 p.q1, .int .i64 p.q2, .int .i64 p.l0, .int .i64 p.l1, .int .i64 p.l2, .string p.image, .int .i64 p.size] 29)).alloc (.cells #[] 29)).cell? ⟨w.heap.size + 1, 7, none⟩ = some (.int .i64 p.l1) ∧ ((wd.alloc (.cells #[.string p.id, .int .i64 p.prio, .bool p.crit, .int .i64 p.q0, .int .i64 p.q1, .int .i64 p.q2, .int .i64 p.l0, .int .i64 p.l1, .int .i64 p.l2, .string p.image, .int .i64 p.size] 29)).alloc (.cells #[] 29)).cell? ⟨w.heap.size + 1, 8, none⟩ = some (.int .i64 p.l2) ∧ ((wd.alloc (.cells #[.string p.id, .int .i64 p.prio, .bool p.crit, .int .i64 p.q0, .int .i64 p.q1, .int .i64 p.q2, .int .i64 p.l0, .int .i64 p.l1, .int .i64 p.l2, .string p.image, .int .i64 p.size] 29)).alloc (.cells #[] 29)).cell? ⟨w.heap.size + 1, 9, none⟩ = some (.string p.image) ∧ ((wd.alloc (.cells #[.string p.id, .int .i64 p.prio, .bool p.crit, .int .i64 p.q0, .int .i64 p.q1, .int .i64 p.q2, .int .i64 p.l0, .int .i64 p.l1, .int .i64 p.l2, .string p.image, .int .i64 p.size] 29)).alloc (.cells #[] 29)).cell? ⟨w.heap.size + 1, 10, none⟩ = some (.int .i64 p.size) from rpCells HQ.out)
        clear hK K
        simp only [Act.put, List.setIfInBounds_toArray, List.set_cons_zero, List.set_cons_succ]
        refine held_call 3 15 rfl rfl (by kernel_rfl) (by rfl) (fun K hK => ?_)
        refine wp_app ((wd.alloc (.cells #[.string p.id, .int .i64 p.prio, .bool p.crit, .int .i64 p.q0, .int .i64 p.q1, .int .i64 p.q2, .int .i64 p.l0, .int .i64 p.l1, .int .i64 p.l2, .string p.image, .int .i64 p.size] 29)).alloc (.cells #[] 29)) elemP encP (.tmp 13) (.tmp 14) rfl wd.heap.size _ [] (by simp [Act.eval]) HOW.out Al l cl (by simp [Act.eval]) (HRd.out.below (HB.out.mono (by simp))) (by simp; omega) (by simp; omega) HB.out.size ?_
        intro A5 c5 w5 ho hg _
        have hb5 := HOW.out.belowGrown HB.out hg (Nat.le_refl _) HB.out.size
        have HRW := Lib.hid (HRW.out.grownN hg (by simp [Value.ownBlock]))
        have how : Own w5 wd.heap.size 29 encP (.slice A5 (l).length c5) l := by simpa using ho
        have HOW := Lib.hid how
        have HB := Lib.hid hb5
        clear ho how hg hb5
        have HQ := Lib.hid (HQd.out.below HB.out)
        have HRi := Lib.hid (HRd.out.below HB.out)
        simp only [List.length_nil, Nat.zero_add]
        refine hK _ _ (rpCells HQ.out) ?_
        have hHeld := (show w5.cell? ⟨w.heap.size, 0, none⟩ = some (.int .i64 room.a) ∧ w5.cell? ⟨w.heap.size, 1, none⟩ = some (.int .i64 room.b) ∧ w5.cell? ⟨w.heap.size, 2, none⟩ = some (.int .i64 room.c) ∧ w5.cell? ⟨w.heap.size + 1, 0, none⟩ = some (.string p.id) ∧ w5.cell? ⟨w.heap.size + 1, 1, none⟩ = some (.int .i64 p.prio) ∧ w5.cell? ⟨w.heap.size + 1, 2, none⟩ = some (.bool p.crit) ∧ w5.cell? ⟨w.heap.size + 1, 3, none⟩ = some (.int .i64 p.q0) ∧ w5.cell? ⟨w.heap.size + 1, 4, none⟩ = some (.int .i64 p.q1) ∧ w5.cell? ⟨w.heap.size + 1, 5, none⟩ = some (.int .i64 p.q2) ∧ w5.cell? ⟨w.heap.size + 1, 6, none⟩ = some (.int .i64 p.l0) ∧ w5.cell? ⟨w.heap.size + 1, 7, none⟩ = some (.int .i64 p.l1) ∧ w5.cell? ⟨w.heap.size + 1, 8, none⟩ = some (.int .i64 p.l2) ∧ w5.cell? ⟨w.heap.size + 1, 9, none⟩ = some (.string p.image) ∧ w5.cell? ⟨w.heap.size + 1, 10, none⟩ = some (.int .i64 p.size) from rpCells HQ.out)
        clear hK K
        simp only [Act.put, List.setIfInBounds_toArray, List.set_cons_zero, List.set_cons_succ]
        refine held_call 6 18 rfl rfl (by kernel_rfl) (by rfl) (fun K hK => ?_)
        refine wp_app (w5) elemP encP (.tmp 15) (.tmp 17) rfl wd.heap.size _ l (by simp [Act.eval]) HOW.out _ [p] 1 (by simp [Act.eval]) HRW.out (by simp; omega) (by simp; omega) HB.out.size ?_
        intro A7 c7 w7 ho hg _
        have hb7 := HOW.out.belowGrown HB.out hg (Nat.le_refl _) HB.out.size
        have HOW := Lib.hid ho
        have HB := Lib.hid hb7
        clear ho hg hb7
        have HQ := Lib.hid (HQd.out.below HB.out)
        have HRi := Lib.hid (HRd.out.below HB.out)
        refine hK _ _ (rpCells HQ.out) ?_
        have hHeld := (show w7.cell? ⟨w.heap.size, 0, none⟩ = some (.int .i64 room.a) ∧ w7.cell? ⟨w.heap.size, 1, none⟩ = some (.int .i64 room.b) ∧ w7.cell? ⟨w.heap.size, 2, none⟩ = some (.int .i64 room.c) ∧ w7.cell? ⟨w.heap.size + 1, 0, none⟩ = some (.string p.id) ∧ w7.cell? ⟨w.heap.size + 1, 1, none⟩ = some (.int .i64 p.prio) ∧ w7.cell? ⟨w.heap.size + 1, 2, none⟩ = some (.bool p.crit) ∧ w7.cell? ⟨w.heap.size + 1, 3, none⟩ = some (.int .i64 p.q0) ∧ w7.cell? ⟨w.heap.size + 1, 4, none⟩ = some (.int .i64 p.q1) ∧ w7.cell? ⟨w.heap.size + 1, 5, none⟩ = some (.int .i64 p.q2) ∧ w7.cell? ⟨w.heap.size + 1, 6, none⟩ = some (.int .i64 p.l0) ∧ w7.cell? ⟨w.heap.size + 1, 7, none⟩ = some (.int .i64 p.l1) ∧ w7.cell? ⟨w.heap.size + 1, 8, none⟩ = some (.int .i64 p.l2) ∧ w7.cell? ⟨w.heap.size + 1, 9, none⟩ = some (.string p.image) ∧ w7.cell? ⟨w.heap.size + 1, 10, none⟩ = some (.int .i64 p.size) from rpCells HQ.out)
        clear hK K
        simp only [Act.put, List.setIfInBounds_toArray, List.set_cons_zero, List.set_cons_succ]
        refine held_call 7 19 rfl rfl (by kernel_rfl) (by rfl) (fun K hK => ?_)
        go_simp
        have HO7 := Lib.hid (show Rds w7 encP A7 (l ++ [p]) from HOW.out.toRds)
        go_at_call 33; with_reducible refine (refFitsN (show l.length + 1 = (l ++ [p]).length by simp) HVA.out HO7.out HWA.out (by simp; omega)).mono ?_; rintro e w9 ⟨rfl, hb⟩
        have HB := Lib.hid (below_rV HB.out hb)
        have HQ := Lib.hid (HQd.out.below HB.out)
        have HRi := Lib.hid (HRd.out.below HB.out)
        clear hb
        refine hK _ _ (rpCells HQ.out) ?_
        have hHeld := (show w9.cell? ⟨w.heap.size, 0, none⟩ = some (.int .i64 room.a) ∧ w9.cell? ⟨w.heap.size, 1, none⟩ = some (.int .i64 room.b) ∧ w9.cell? ⟨w.heap.size, 2, none⟩ = some (.int .i64 room.c) ∧ w9.cell? ⟨w.heap.size + 1, 0, none⟩ = some (.string p.id) ∧ w9.cell? ⟨w.heap.size + 1, 1, none⟩ = some (.int .i64 p.prio) ∧ w9.cell? ⟨w.heap.size + 1, 2, none⟩ = some (.bool p.crit) ∧ w9.cell? ⟨w.heap.size + 1, 3, none⟩ = some (.int .i64 p.q0) ∧ w9.cell? ⟨w.heap.size + 1, 4, none⟩ = some (.int .i64 p.q1) ∧ w9.cell? ⟨w.heap.size + 1, 5, none⟩ = some (.int .i64 p.q2) ∧ w9.cell? ⟨w.heap.size + 1, 6, none⟩ = some (.int .i64 p.l0) ∧ w9.cell? ⟨w.heap.size + 1, 7, none⟩ = some (.int .i64 p.l1) ∧ w9.cell? ⟨w.heap.size + 1, 8, none⟩ = some (.int .i64 p.l2) ∧ w9.cell? ⟨w.heap.size + 1, 9, none⟩ = some (.string p.image) ∧ w9.cell? ⟨w.heap.size + 1, 10, none⟩ = some (.int .i64 p.size) from rpCells HQ.out)
        clear hK K
        simp only [Act.put, List.setIfInBounds_toArray, List.set_cons_zero, List.set_cons_succ]
        refine wpAnyH_done (by kernel_rfl) ?_ _
        clear hHeld
        go_wp2_with fail
        go_meet
        exact ⟨rfl, below_rV HBr.out HB.out⟩
    case rest =>
      obtain ⟨rfl, hb1⟩ := hcut
      rename World => W0
      have HQ := Lib.hid (HQ.out.below hb1)
      have HRi := Lib.hid (HRi.out.below hb1)
      have HQ0 := HQ
      have HR0 := HRi
      clear hb1 HWA HVA
      have cp := HQ.out.pb.cell
      have crm := HQ.out.rm.cell
      go_wp2_with fail
      refine (fixed_any p l Al cl _ HRi.out (by omega)).mono ?_; rintro e W1 ⟨A8, c8, rfl, ho, hb⟩
      have HQ := Lib.hid (HQ.out.below hb)
      have HRi := Lib.hid (HRi.out.below hb)
      have HS0 := Lib.hid ho
      have HB0 := Lib.hid hb
      clear ho hb cp crm
      have crm := HQ.out.rm.cell
      have HVF : Hid (fitsB room (fixD p l) = bb) := by show _ = _; rw [fitsB_perm (fixD_stay p l)]; exact HFS.out
      have HWF := Lib.hid (show ∀ x ∈ fixD p l, x.Wf from fun x hx => by
        unfold fixD at hx
        rcases List.mem_append.1 hx with h | h
        · exact HW.out x (List.mem_filter.1 h).1
        · rw [List.mem_singleton.1 h]; exact HPW.out)
      have hfl : (fixD p l).length ≤ 65 := by unfold fixD; have := fixT_len p l; unfold fixT at this; simp; omega
      go_wp2_with fail
      refine (refFitsV HVF.out HS0.out.toRds HWF.out (by omega)).mono ?_; rintro e W2 ⟨rfl, hb⟩
      have HQ := Lib.hid (HQ.out.below hb)
      have HRi := Lib.hid (HRi.out.below hb)
      have HS0 := Lib.hid (HS0.out.below hb (Nat.le_refl _))
      have HB0 := Lib.hid (below_rV HB0.out hb)
      clear hb crm
      have cp := HQ.out.pb.cell
      cases bb
      · obtain rfl : O = [] := HO.out.2 rfl
        go_wp2_with fail
        go_ret2
        exact ⟨none, 0, rfl, Own.nil_ _ _ _ _, HQ.out.bel⟩
      · go_wp2_with fail
        refine (nextN (p := p) (asked := []) rfl HRi.out (Rds.nil _ _ _) (by omega) (by simp)).mono ?_; rintro e W3 ⟨z0, rfl, hbest, hb⟩
        have HQ := Lib.hid (HQ.out.below hb)
        have HRi := Lib.hid (HRi.out.below hb)
        have HS0 := Lib.hid (HS0.out.below hb (Nat.le_refl _))
        have HB0 := Lib.hid (below_rV HB0.out hb)
        have HWAY : Hid (Way room p l K [] K (fixD p l) [] z0) := ⟨rfl, fixD_stay p l, by simp [chooseD], List.Pairwise.nil, by simpa using hbest⟩
        clear hbest hb cp
        generalize fixD p l = S0 at *
        go_wp2_with fail
        go_loopw [8, 9, 10, 11] (fun st sk ou kk wr => ∃ (T R S : List Pd) (Os : List ByteArray) (z : Int) (A8 : Option Addr) (c8 : Nat) (A9 : Option Addr) (c9 : Nat) (A10 : Option Addr) (c10 : Nat), st = .slice A8 S.length c8 ∧ sk = .slice A9 T.length c9 ∧ ou = .slice A10 Os.length c10 ∧ kk = .int .i64 z ∧ Way room p l K T R S Os z ∧ Lug W0 S (T.map Pd.id) Os (.slice A8 S.length c8) (.slice A9 T.length c9) (.slice A10 Os.length c10) wr) (fun _ sk _ _ _ => l.length + 1 - sliceLen sk)
        case atStart => exact ⟨[], K, S0, [], z0, A8, c8, none, 0, none, 0, rfl, rfl, rfl, rfl, HWAY.out, ⟨HS0.out, Own.nil_ _ _ _ _, Own.nil_ _ _ _ _, Apart.nilL _, HB0.out⟩⟩
        case round =>
          clear HS0 HB0 HWAY HVF HWF
          obtain ⟨T, R, S, Os, z, A8, c8, A9, c9, A10, c10, rfl, rfl, rfl, rfl, hway, hlug⟩ := hrel
          have HWY := Lib.hid hway
          have HL := Lib.hid hlug
          obtain ⟨hTl, hSl, hOl, hTR⟩ := hway.len HK.out.1
          have HQ := Lib.hid (HQ0.out.below HL.out.bel)
          have HRi := Lib.hid (HR0.out.below HL.out.bel)
          clear hway hlug
          have hz : z = -1 ∨ ∃ j, j < l.length ∧ z = (j : Int) := HWY.out.b.cases_
          rcases hz with hz | ⟨j, hj, hz⟩
          · obtain rfl : z = -1 := hz
            have HOO : Hid (Os = O) := by
              have hKT := HWY.out.none_ HINJ.out HND.out HK.out.1
              obtain ⟨h1, h2⟩ := HO.out.1 trivial
              rw [hKT] at h1
              exact sortT_eq (HWY.out.o.trans h1.symm) HWY.out.os h2
            have dz : decide ((0 : Int) ≤ -1) = false := rfl
            go_wp2_with fail
            go_ret2
            exact ⟨A10, c10, by rw [← HOO.out]; rfl, by have h := HL.out.o.mono HQ0.out.bel.size; rw [HOO.out] at h; exact h, HQ.out.bel⟩
          · obtain rfl : z = (j : Int) := hz
            have dz : decide ((0 : Int) ≤ (j : Int)) = true := decide_eq_true (by omega)
            have dj2 : (j : Int) < (l.length : Int) := by omega
            obtain ⟨b, off, hA⟩ := HR.out.some_ hj
            obtain rfl : Al = some ⟨b, off, none⟩ := hA
            obtain ⟨R', hR, hK2⟩ := HWY.out.head HINJ.out HND.out HK.out.1 HK.out.2 hj
            have hTR2 : T.length < l.length := by rw [hR] at hTR; simp at hTR; omega
            have HK2 := Lib.hid hK2
            have HYJ := Lib.hid (List.getElem?_eq_getElem hj)
            have HWY1 := Lib.hid (HW.out _ (List.getElem_mem hj))
            clear hR hK2 hTR
            generalize l[j] = y at *
            have hy0 := (HRi.out.pdAt (Below.refl _ _) HYJ.out).1
            have HWSY := Lib.hid (show ∀ x ∈ S ++ [y], x.Wf from fun x hx => by
              rcases List.mem_append.1 hx with h | h
              · exact HWY.out.wf HK.out.1 HW.out HPW.out x h
              · rw [List.mem_singleton.1 h]; exact HWY1.out)
            go_wp2_with (at_builtin; refine wl_pushA elemS encS rfl (.tmp 33) (.tmp 39) rfl y.id #[.string y.id] rfl W0.heap.size _ (T.map Pd.id) rfl HL.out.t rfl rfl HL.out.bel (by simp; omega) (by simp; omega) HL.out.bel.size ?_; intro A9' k9 w3 ho hb hg hd; have HL3 := Lib.hid (lug_push HL.out ho hb hg hd); clear ho hb hg hd)
            have HL : Hid (Lug W0 S ((T ++ [y]).map Pd.id) Os (.slice A8 S.length c8) (.slice A9' (T.length + 1) k9) (.slice A10 Os.length c10) w3) := by
              have h := HL3.out
              rw [List.length_map] at h
              show Lug _ _ _ _ _ _ _ _
              rw [List.map_append]
              exact h
            have HQ := Lib.hid (HQ0.out.below HL.out.bel)
            have HRi := Lib.hid (HR0.out.below HL.out.bel)
            have HS := Lib.hid HL.out.s.toRds
            clear hy0 HL3
            obtain ⟨v, hv⟩ : ∃ v, fitsB room (S ++ [y]) = v := ⟨_, rfl⟩
            have HV := Lib.hid hv
            clear hv
            have hBr : Below w3.heap.size w3 w3.drew := (Below.refl _ _).drew
            have HBr := Lib.hid hBr
            clear hBr
            go_cut [51] (fun v' W => v' = .bool v ∧ Below w3.heap.size w3 W)
            case first =>
              have HQd := Lib.hid HQ.out.drew
              have HRd := Lib.hid HRi.out.drew
              have HSd := Lib.hid HS.out.drew
              refine wp_region_held_drew (S := (fun w' => w'.cell? ⟨w.heap.size, 0, none⟩ = some (.int .i64 room.a) ∧ w'.cell? ⟨w.heap.size, 1, none⟩ = some (.int .i64 room.b) ∧ w'.cell? ⟨w.heap.size, 2, none⟩ = some (.int .i64 room.c) ∧ w'.cell? ⟨w.heap.size + 1, 0, none⟩ = some (.string p.id) ∧ w'.cell? ⟨w.heap.size + 1, 1, none⟩ = some (.int .i64 p.prio) ∧ w'.cell? ⟨w.heap.size + 1, 2, none⟩ = some (.bool p.crit) ∧ w'.cell? ⟨w.heap.size + 1, 3, none⟩ = some (.int .i64 p.q0) ∧ w'.cell? ⟨w.heap.size + 1, 4, none⟩ = some (.int .i64 p.q1) ∧ w'.cell? ⟨w.heap.size + 1, 5, none⟩ = some (.int .i64 p.q2) ∧ w'.cell? ⟨w.heap.size + 1, 6, none⟩ = some (.int .i64 p.l0) ∧ w'.cell? ⟨w.heap.size + 1, 7, none⟩ = some (.int .i64 p.l1) ∧ w'.cell? ⟨w.heap.size + 1, 8, none⟩ = some (.int .i64 p.l2) ∧ w'.cell? ⟨w.heap.size + 1, 9, none⟩ = some (.string p.image) ∧ w'.cell? ⟨w.heap.size + 1, 10, none⟩ = some (.int .i64 p.size) ∧ w'.cell? ⟨b, off + j * 11, none⟩ = some (.string y.id) ∧ w'.cell? ⟨b, off + j * 11 + 1, none⟩ = some (.int .i64 y.prio) ∧ w'.cell? ⟨b, off + j * 11 + 2, none⟩ = some (.bool y.crit) ∧ w'.cell? ⟨b, off + j * 11 + 3, none⟩ = some (.int .i64 y.q0) ∧ w'.cell? ⟨b, off + j * 11 + 4, none⟩ = some (.int .i64 y.q1) ∧ w'.cell? ⟨b, off + j * 11 + 5, none⟩ = some (.int .i64 y.q2) ∧ w'.cell? ⟨b, off + j * 11 + 6, none⟩ = some (.int .i64 y.l0) ∧ w'.cell? ⟨b, off + j * 11 + 7, none⟩ = some (.int .i64 y.l1) ∧ w'.cell? ⟨b, off + j * 11 + 8, none⟩ = some (.int .i64 y.l2) ∧ w'.cell? ⟨b, off + j * 11 + 9, none⟩ = some (.string y.image) ∧ w'.cell? ⟨b, off + j * 11 + 10, none⟩ = some (.int .i64 y.size))) (by kernel_rfl) (spCells HQd.out HRd.out HYJ.out) (fun hHeld => ?_)
              generalize w3.drew = wd at *
              have hb0 : Below wd.heap.size wd wd := Below.refl _ _
              have HB := Lib.hid hb0
              clear hb0
              have HQ := HQd
              have HRi := HRd
              refine held_take 0 41 (.agg #[.int .i64 room.a, .int .i64 room.b, .int .i64 room.c]) rfl rfl (by kernel_rfl) (by kernel_rfl) (by kernel_rfl) (fun _ _ _ h => h) (by rfl) (by intro w' hSw; (try dsimp only at hSw); go_simp; (try (with_reducible rfl))) (by assumption) ?_
              simp only [Act.put, List.setIfInBounds_toArray, List.set_cons_zero, List.set_cons_succ]
              refine held_take 2 43 (.slice A8 S.length c8) rfl rfl (by kernel_rfl) (by kernel_rfl) (by kernel_rfl) (fun _ _ _ h => h) (by rfl) (by intro w' hSw; (try dsimp only at hSw); go_simp; (try (with_reducible rfl))) (by assumption) ?_
              simp only [Act.put, List.setIfInBounds_toArray, List.set_cons_zero, List.set_cons_succ]
              refine held_take 4 45 (.slice (some ⟨b, off, none⟩) l.length cl) rfl rfl (by kernel_rfl) (by kernel_rfl) (by kernel_rfl) (fun _ _ _ h => h) (by rfl) (by intro w' hSw; (try dsimp only at hSw); go_simp; (try (with_reducible rfl))) (by assumption) ?_
              simp only [Act.put, List.setIfInBounds_toArray, List.set_cons_zero, List.set_cons_succ]
              refine held_take 5 46 (.int .i64 j) rfl rfl (by kernel_rfl) (by kernel_rfl) (by kernel_rfl) (fun _ _ _ h => h) (by rfl) (by intro w' hSw; (try dsimp only at hSw); go_simp; (try (with_reducible rfl))) (by assumption) ?_
              simp only [Act.put, List.setIfInBounds_toArray, List.set_cons_zero, List.set_cons_succ]
              refine held_take 6 47 (.pointer (some ⟨b, off + j * 11, none⟩)) rfl rfl (by kernel_rfl) (by kernel_rfl) (by kernel_rfl) (fun _ _ _ h => h) (by rfl) (by intro w' hSw; (try dsimp only at hSw); go_simp; (try (with_reducible rfl))) (by assumption) ?_
              simp only [Act.put, List.setIfInBounds_toArray, List.set_cons_zero, List.set_cons_succ]
              refine held_take 7 48 (.agg #[.string y.id, .int .i64 y.prio, .bool y.crit, .int .i64 y.q0, .int .i64 y.q1, .int .i64 y.q2, .int .i64 y.l0, .int .i64 y.l1, .int .i64 y.l2, .string y.image, .int .i64 y.size]) rfl rfl (by kernel_rfl) (by kernel_rfl) (by kernel_rfl) (fun _ _ _ h => h) (by rfl) (by intro w' hSw; (try dsimp only at hSw); go_simp; (try (with_reducible rfl))) (by assumption) ?_
              simp only [Act.put, List.setIfInBounds_toArray, List.set_cons_zero, List.set_cons_succ]
              refine held_twoD 1 8 42 49 rfl rfl rfl rfl (by kernel_rfl) (by rfl) (by rfl) (fun K hK => ?_) (fun K hK => ?_)
              · go_simp
                have how := Own.made (wd) wd.heap.size 29 encP [] #[] rfl HB.out.size (by simp)
                have HOW := Lib.hid how
                clear how
                have HB := Lib.hid (HB.out.alloc HB.out.size (.cells #[] 29))
                have HQ := Lib.hid (HQd.out.below HB.out)
                have HRi := Lib.hid (HRd.out.below HB.out)
                refine hK _ _ (spCells HQ.out HRi.out HYJ.out) ?_
                have hHeld := (show ((wd).alloc (.cells #[] 29)).cell? ⟨w.heap.size, 0, none⟩ = some (.int .i64 room.a) ∧ ((wd).alloc (.cells #[] 29)).cell? ⟨w.heap.size, 1, none⟩ = some (.int .i64 room.b) ∧ ((wd).alloc (.cells #[] 29)).cell? ⟨w.heap.size, 2, none⟩ = some (.int .i64 room.c) ∧ ((wd).alloc (.cells #[] 29)).cell? ⟨w.heap.size + 1, 0, none⟩ = some (.string p.id) ∧ ((wd).alloc (.cells #[] 29)).cell? ⟨w.heap.size + 1, 1, none⟩ = some (.int .i64 p.prio) ∧ ((wd).alloc (.cells #[] 29)).cell? ⟨w.heap.size + 1, 2, none⟩ = some (.bool p.crit) ∧ ((wd).alloc (.cells #[] 29)).cell? ⟨w.heap.size + 1, 3, none⟩ = some (.int .i64 p.q0) ∧ ((wd).alloc (.cells #[] 29)).cell? ⟨w.heap.size + 1, 4, none⟩ = some (.int .i64 p.q1) ∧ ((wd).alloc (.cells #[] 29)).cell? ⟨w.heap.size + 1, 5, none⟩ = some (.int .i64 p.q2) ∧ ((wd).alloc (.cells #[] 29)).cell? ⟨w.heap.size + 1, 6, none⟩ = some (.int .i64 p.l0) ∧ ((wd).alloc (.cells #[] 29)).cell? ⟨w.heap.size + 1, 7, none⟩ = some (.int .i64 p.l1) ∧ ((wd).alloc (.cells #[] 29)).cell? ⟨w.heap.size + 1, 8, none⟩ = some (.int .i64 p.l2) ∧ ((wd).alloc (.cells #[] 29)).cell? ⟨w.heap.size + 1, 9, none⟩ = some (.string p.image) ∧ ((wd).alloc (.cells #[] 29)).cell? ⟨w.heap.size + 1, 10, none⟩ = some (.int .i64 p.size) ∧ ((wd).alloc (.cells #[] 29)).cell? ⟨b, off + j * 11, none⟩ = some (.string y.id) ∧ ((wd).alloc (.cells #[] 29)).cell? ⟨b, off + j * 11 + 1, none⟩ = some (.int .i64 y.prio) ∧ ((wd).alloc (.cells #[] 29)).cell? ⟨b, off + j * 11 + 2, none⟩ = some (.bool y.crit) ∧ ((wd).alloc (.cells #[] 29)).cell? ⟨b, off + j * 11 + 3, none⟩ = some (.int .i64 y.q0) ∧ ((wd).alloc (.cells #[] 29)).cell? ⟨b, off + j * 11 + 4, none⟩ = some (.int .i64 y.q1) ∧ ((wd).alloc (.cells #[] 29)).cell? ⟨b, off + j * 11 + 5, none⟩ = some (.int .i64 y.q2) ∧ ((wd).alloc (.cells #[] 29)).cell? ⟨b, off + j * 11 + 6, none⟩ = some (.int .i64 y.l0) ∧ ((wd).alloc (.cells #[] 29)).cell? ⟨b, off + j * 11 + 7, none⟩ = some (.int .i64 y.l1) ∧ ((wd).alloc (.cells #[] 29)).cell? ⟨b, off + j * 11 + 8, none⟩ = some (.int .i64 y.l2) ∧ ((wd).alloc (.cells #[] 29)).cell? ⟨b, off + j * 11 + 9, none⟩ = some (.string y.image) ∧ ((wd).alloc (.cells #[] 29)).cell? ⟨b, off + j * 11 + 10, none⟩ = some (.int .i64 y.size) from spCells HQ.out HRi.out HYJ.out)
                clear hK K
                simp only [Act.put, List.setIfInBounds_toArray, List.set_cons_zero, List.set_cons_succ]
                refine held_twoD 3 8 44 49 rfl rfl rfl rfl (by kernel_rfl) (by rfl) (by rfl) (fun K hK => ?_) (fun K hK => ?_)
                · refine wp_app (wd.alloc (.cells #[] 29)) elemP encP (.tmp 42) (.tmp 43) rfl wd.heap.size _ [] (by simp [Act.eval]) HOW.out A8 S c8 (by simp [Act.eval]) (HSd.out.below (HB.out.mono (by simp))) (by simp; omega) (by simp; omega) HB.out.size ?_
                  intro A5 c5 w5 ho hg _
                  have hb5 := HOW.out.belowGrown HB.out hg (Nat.le_refl _) HB.out.size
                  have how : Own w5 wd.heap.size 29 encP (.slice A5 (S).length c5) S := by simpa using ho
                  have HOW := Lib.hid how
                  have HB := Lib.hid hb5
                  clear ho how hg hb5
                  have HQ := Lib.hid (HQd.out.below HB.out)
                  have HRi := Lib.hid (HRd.out.below HB.out)
                  simp only [List.length_nil, Nat.zero_add]
                  refine hK _ _ (spCells HQ.out HRi.out HYJ.out) ?_
                  have hHeld := (show w5.cell? ⟨w.heap.size, 0, none⟩ = some (.int .i64 room.a) ∧ w5.cell? ⟨w.heap.size, 1, none⟩ = some (.int .i64 room.b) ∧ w5.cell? ⟨w.heap.size, 2, none⟩ = some (.int .i64 room.c) ∧ w5.cell? ⟨w.heap.size + 1, 0, none⟩ = some (.string p.id) ∧ w5.cell? ⟨w.heap.size + 1, 1, none⟩ = some (.int .i64 p.prio) ∧ w5.cell? ⟨w.heap.size + 1, 2, none⟩ = some (.bool p.crit) ∧ w5.cell? ⟨w.heap.size + 1, 3, none⟩ = some (.int .i64 p.q0) ∧ w5.cell? ⟨w.heap.size + 1, 4, none⟩ = some (.int .i64 p.q1) ∧ w5.cell? ⟨w.heap.size + 1, 5, none⟩ = some (.int .i64 p.q2) ∧ w5.cell? ⟨w.heap.size + 1, 6, none⟩ = some (.int .i64 p.l0) ∧ w5.cell? ⟨w.heap.size + 1, 7, none⟩ = some (.int .i64 p.l1) ∧ w5.cell? ⟨w.heap.size + 1, 8, none⟩ = some (.int .i64 p.l2) ∧ w5.cell? ⟨w.heap.size + 1, 9, none⟩ = some (.string p.image) ∧ w5.cell? ⟨w.heap.size + 1, 10, none⟩ = some (.int .i64 p.size) ∧ w5.cell? ⟨b, off + j * 11, none⟩ = some (.string y.id) ∧ w5.cell? ⟨b, off + j * 11 + 1, none⟩ = some (.int .i64 y.prio) ∧ w5.cell? ⟨b, off + j * 11 + 2, none⟩ = some (.bool y.crit) ∧ w5.cell? ⟨b, off + j * 11 + 3, none⟩ = some (.int .i64 y.q0) ∧ w5.cell? ⟨b, off + j * 11 + 4, none⟩ = some (.int .i64 y.q1) ∧ w5.cell? ⟨b, off + j * 11 + 5, none⟩ = some (.int .i64 y.q2) ∧ w5.cell? ⟨b, off + j * 11 + 6, none⟩ = some (.int .i64 y.l0) ∧ w5.cell? ⟨b, off + j * 11 + 7, none⟩ = some (.int .i64 y.l1) ∧ w5.cell? ⟨b, off + j * 11 + 8, none⟩ = some (.int .i64 y.l2) ∧ w5.cell? ⟨b, off + j * 11 + 9, none⟩ = some (.string y.image) ∧ w5.cell? ⟨b, off + j * 11 + 10, none⟩ = some (.int .i64 y.size) from spCells HQ.out HRi.out HYJ.out)
                  clear hK K
                  simp only [Act.put, List.setIfInBounds_toArray, List.set_cons_zero, List.set_cons_succ]
                  refine held_call 8 49 rfl rfl (by kernel_rfl) (by rfl) (fun K hK => ?_)
                  go_simp
                  have hrw := Rds.made (w5) encP [y] 29 #[.string y.id, .int .i64 y.prio, .bool y.crit, .int .i64 y.q0, .int .i64 y.q1, .int .i64 y.q2, .int .i64 y.l0, .int .i64 y.l1, .int .i64 y.l2, .string y.image, .int .i64 y.size] (0, 0) rfl
                  have HOW := Lib.hid (HOW.out.alloc (.cells #[.string y.id, .int .i64 y.prio, .bool y.crit, .int .i64 y.q0, .int .i64 y.q1, .int .i64 y.q2, .int .i64 y.l0, .int .i64 y.l1, .int .i64 y.l2, .string y.image, .int .i64 y.size] 29))
                  have HRW := Lib.hid hrw
                  clear hrw
                  have HB := Lib.hid (HB.out.alloc HB.out.size (.cells #[.string y.id, .int .i64 y.prio, .bool y.crit, .int .i64 y.q0, .int .i64 y.q1, .int .i64 y.q2, .int .i64 y.l0, .int .i64 y.l1, .int .i64 y.l2, .string y.image, .int .i64 y.size] 29))
                  have HQ := Lib.hid (HQd.out.below HB.out)
                  have HRi := Lib.hid (HRd.out.below HB.out)
                  refine hK _ _ (spCells HQ.out HRi.out HYJ.out) ?_
                  have hHeld := (show ((w5).alloc (.cells #[.string y.id, .int .i64 y.prio, .bool y.crit, .int .i64 y.q0, .int .i64 y.q1, .int .i64 y.q2, .int .i64 y.l0, .int .i64 y.l1, .int .i64 y.l2, .string y.image, .int .i64 y.size] 29)).cell? ⟨w.heap.size, 0, none⟩ = some (.int .i64 room.a) ∧ ((w5).alloc (.cells #[.string y.id, .int .i64 y.prio, .bool y.crit, .int .i64 y.q0, .int .i64 y.q1, .int .i64 y.q2, .int .i64 y.l0, .int .i64 y.l1, .int .i64 y.l2, .string y.image, .int .i64 y.size] 29)).cell? ⟨w.heap.size, 1, none⟩ = some (.int .i64 room.b) ∧ ((w5).alloc (.cells #[.string y.id, .int .i64 y.prio, .bool y.crit, .int .i64 y.q0, .int .i64 y.q1, .int .i64 y.q2, .int .i64 y.l0, .int .i64 y.l1, .int .i64 y.l2, .string y.image, .int .i64 y.size] 29)).cell? ⟨w.heap.size, 2, none⟩ = some (.int .i64 room.c) ∧ ((w5).alloc (.cells #[.string y.id, .int .i64 y.prio, .bool y.crit, .int .i64 y.q0, .int .i64 y.q1, .int .i64 y.q2, .int .i64 y.l0, .int .i64 y.l1, .int .i64 y.l2, .string y.image, .int .i64 y.size] 29)).cell? ⟨w.heap.size + 1, 0, none⟩ = some (.string p.id) ∧ ((w5).alloc (.cells #[.string y.id, .int .i64 y.prio, .bool y.crit, .int .i64 y.q0, .int .i64 y.q1, .int .i64 y.q2, .int .i64 y.l0, .int .i64 y.l1, .int .i64 y.l2, .string y.image, .int .i64 y.size] 29)).cell? ⟨w.heap.size + 1, 1, none⟩ = some (.int .i64 p.prio) ∧ ((w5).alloc (.cells #[.string y.id, .int .i64 y.prio, .bool y.crit, .int .i64 y.q0, .int .i64 y.q1, .int .i64 y.q2, .int .i64 y.l0, .int .i64 y.l1, .int .i64 y.l2, .string y.image, .int .i64 y.size] 29)).cell? ⟨w.heap.size + 1, 2, none⟩ = some (.bool p.crit) ∧ ((w5).alloc (.cells #[.string y.id, .int .i64 y.prio, .bool y.crit, .int .i64 y.q0, .int .i64 y.q1, .int .i64 y.q2, .int .i64 y.l0, .int .i64 y.l1, .int .i64 y.l2, .string y.image, .int .i64 y.size] 29)).cell? ⟨w.heap.size + 1, 3, none⟩ = some (.int .i64 p.q0) ∧ ((w5).alloc (.cells #[.string y.id, .int .i64 y.prio, .bool y.crit, .int .i64 y.q0, .int .i64 y.q1, .int .i64 y.q2, .int .i64 y.l0, .int .i64 y.l1, .int .i64 y.l2, .string y.image, .int .i64 y.size] 29)).cell? ⟨w.heap.size + 1, 4, none⟩ = some (.int .i64 p.q1) ∧ ((w5).alloc (.cells #[.string y.id, .int .i64 y.prio, .bool y.crit, .int .i64 y.q0, .int .i64 y.q1, .int .i64 y.q2, .int .i64 y.l0, .int .i64 y.l1, .int .i64 y.l2, .string y.image, .int .i64 y.size] 29)).cell? ⟨w.heap.size + 1, 5, none⟩ = some (.int .i64 p.q2) ∧ ((w5).alloc (.cells #[.string y.id, .int .i64 y.prio, .bool y.crit, .int .i64 y.q0, .int .i64 y.q1, .int .i64 y.q2, .int .i64 y.l0, .int .i64 y.l1, .int .i64 y.l2, .string y.image, .int .i64 y.size] 29)).cell? ⟨w.heap.size + 1, 6, none⟩ = some (.int .i64 p.l0) ∧ ((w5).alloc (.cells #[.string y.id, .int .i64 y.prio, .bool y.crit, .int .i64 y.q0, .int .i64 y.q1, .int .i64 y.q2, .int .i64 y.l0, .int .i64 y.l1, .int .i64 y.l2, .string y.image, .int .i64 y.size] 29)).cell? ⟨w.heap.size + 1, 7, none⟩ = some (.int .i64 p.l1) ∧ ((w5).alloc (.cells #[.string y.id, .int .i64 y.prio, .bool y.crit, .int .i64 y.q0, .int .i64 y.q1, .int .i64 y.q2, .int .i64 y.l0, .int .i64 y.l1, .int .i64 y.l2, .string y.image, .int .i64 y.size] 29)).cell? ⟨w.heap.size + 1, 8, none⟩ = some (.int .i64 p.l2) ∧ ((w5).alloc (.cells #[.string y.id, .int .i64 y.prio, .bool y.crit, .int .i64 y.q0, .int .i64 y.q1, .int .i64 y.q2, .int .i64 y.l0, .int .i64 y.l1, .int .i64 y.l2, .string y.image, .int .i64 y.size] 29)).cell? ⟨w.heap.size + 1, 9, none⟩ = some (.string p.image) ∧ ((w5).alloc (.cells #[.string y.id, .int .i64 y.prio, .bool y.crit, .int .i64 y.q0, .int .i64 y.q1, .int .i64 y.q2, .int .i64 y.l0, .int .i64 y.l1, .int .i64 y.l2, .string y.image, .int .i64 y.size] 29)).cell? ⟨w.heap.size + 1, 10, none⟩ = some (.int .i64 p.size) ∧ ((w5).alloc (.cells #[.string y.id, .int .i64 y.prio, .bool y.crit, .int .i64 y.q0, .int .i64 y.q1, .int .i64 y.q2, .int .i64 y.l0, .int .i64 y.l1, .int .i64 y.l2, .string y.image, .int .i64 y.size] 29)).cell? ⟨b, off + j * 11, none⟩ = some (.string y.id) ∧ ((w5).alloc (.cells #[.string y.id, .int .i64 y.prio, .bool y.crit, .int .i64 y.q0, .int .i64 y.q1, .int .i64 y.q2, .int .i64 y.l0, .int .i64 y.l1, .int .i64 y.l2, .string y.image, .int .i64 y.size] 29)).cell? ⟨b, off + j * 11 + 1, none⟩ = some (.int .i64 y.prio) ∧ ((w5).alloc (.cells #[.string y.id, .int .i64 y.prio, .bool y.crit, .int .i64 y.q0, .int .i64 y.q1, .int .i64 y.q2, .int .i64 y.l0, .int .i64 y.l1, .int .i64 y.l2, .string y.image, .int .i64 y.size] 29)).cell? ⟨b, off + j * 11 + 2, none⟩ = some (.bool y.crit) ∧ ((w5).alloc (.cells #[.string y.id, .int .i64 y.prio, .bool y.crit, .int .i64 y.q0, .int .i64 y.q1, .int .i64 y.q2, .int .i64 y.l0, .int .i64 y.l1, .int .i64 y.l2, .string y.image, .int .i64 y.size] 29)).cell? ⟨b, off + j * 11 + 3, none⟩ = some (.int .i64 y.q0) ∧ ((w5).alloc (.cells #[.string y.id, .int .i64 y.prio, .bool y.crit, .int .i64 y.q0, .int .i64 y.q1, .int .i64 y.q2, .int .i64 y.l0, .int .i64 y.l1, .int .i64 y.l2, .string y.image, .int .i64 y.size] 29)).cell? ⟨b, off + j * 11 + 4, none⟩ = some (.int .i64 y.q1) ∧ ((w5).alloc (.cells #[.string y.id, .int .i64 y.prio, .bool y.crit, .int .i64 y.q0, .int .i64 y.q1, .int .i64 y.q2, .int .i64 y.l0, .int .i64 y.l1, .int .i64 y.l2, .string y.image, .int .i64 y.size] 29)).cell? ⟨b, off + j * 11 + 5, none⟩ = some (.int .i64 y.q2) ∧ ((w5).alloc (.cells #[.string y.id, .int .i64 y.prio, .bool y.crit, .int .i64 y.q0, .int .i64 y.q1, .int .i64 y.q2, .int .i64 y.l0, .int .i64 y.l1, .int .i64 y.l2, .string y.image, .int .i64 y.size] 29)).cell? ⟨b, off + j * 11 + 6, none⟩ = some (.int .i64 y.l0) ∧ ((w5).alloc (.cells #[.string y.id, .int .i64 y.prio, .bool y.crit, .int .i64 y.q0, .int .i64 y.q1, .int .i64 y.q2, .int .i64 y.l0, .int .i64 y.l1, .int .i64 y.l2, .string y.image, .int .i64 y.size] 29)).cell? ⟨b, off + j * 11 + 7, none⟩ = some (.int .i64 y.l1) ∧ ((w5).alloc (.cells #[.string y.id, .int .i64 y.prio, .bool y.crit, .int .i64 y.q0, .int .i64 y.q1, .int .i64 y.q2, .int .i64 y.l0, .int .i64 y.l1, .int .i64 y.l2, .string y.image, .int .i64 y.size] 29)).cell? ⟨b, off + j * 11 + 8, none⟩ = some (.int .i64 y.l2) ∧ ((w5).alloc (.cells #[.string y.id, .int .i64 y.prio, .bool y.crit, .int .i64 y.q0, .int .i64 y.q1, .int .i64 y.q2, .int .i64 y.l0, .int .i64 y.l1, .int .i64 y.l2, .string y.image, .int .i64 y.size] 29)).cell? ⟨b, off + j * 11 + 9, none⟩ = some (.string y.image) ∧ ((w5).alloc (.cells #[.string y.id, .int .i64 y.prio, .bool y.crit, .int .i64 y.q0, .int .i64 y.q1, .int .i64 y.q2, .int .i64 y.l0, .int .i64 y.l1, .int .i64 y.l2, .string y.image, .int .i64 y.size] 29)).cell? ⟨b, off + j * 11 + 10, none⟩ = some (.int .i64 y.size) from spCells HQ.out HRi.out HYJ.out)
                  clear hK K
                  simp only [Act.put, List.setIfInBounds_toArray, List.set_cons_zero, List.set_cons_succ]
                  refine held_call 9 50 rfl rfl (by kernel_rfl) (by rfl) (fun K hK => ?_)
                  refine wp_app (w5.alloc (.cells #[.string y.id, .int .i64 y.prio, .bool y.crit, .int .i64 y.q0, .int .i64 y.q1, .int .i64 y.q2, .int .i64 y.l0, .int .i64 y.l1, .int .i64 y.l2, .string y.image, .int .i64 y.size] 29)) elemP encP (.tmp 44) (.tmp 49) rfl wd.heap.size _ S (by simp [Act.eval]) HOW.out _ [y] 1 (by simp [Act.eval]) HRW.out (by simp; omega) (by simp; omega) HB.out.size ?_
                  intro A7 c7 w7 ho hg _
                  have hb7 := HOW.out.belowGrown HB.out hg (Nat.le_refl _) HB.out.size
                  have HOW := Lib.hid ho
                  have HB := Lib.hid hb7
                  clear ho hg hb7
                  have HQ := Lib.hid (HQd.out.below HB.out)
                  have HRi := Lib.hid (HRd.out.below HB.out)
                  refine hK _ _ (spCells HQ.out HRi.out HYJ.out) ?_
                  have hHeld := (show w7.cell? ⟨w.heap.size, 0, none⟩ = some (.int .i64 room.a) ∧ w7.cell? ⟨w.heap.size, 1, none⟩ = some (.int .i64 room.b) ∧ w7.cell? ⟨w.heap.size, 2, none⟩ = some (.int .i64 room.c) ∧ w7.cell? ⟨w.heap.size + 1, 0, none⟩ = some (.string p.id) ∧ w7.cell? ⟨w.heap.size + 1, 1, none⟩ = some (.int .i64 p.prio) ∧ w7.cell? ⟨w.heap.size + 1, 2, none⟩ = some (.bool p.crit) ∧ w7.cell? ⟨w.heap.size + 1, 3, none⟩ = some (.int .i64 p.q0) ∧ w7.cell? ⟨w.heap.size + 1, 4, none⟩ = some (.int .i64 p.q1) ∧ w7.cell? ⟨w.heap.size + 1, 5, none⟩ = some (.int .i64 p.q2) ∧ w7.cell? ⟨w.heap.size + 1, 6, none⟩ = some (.int .i64 p.l0) ∧ w7.cell? ⟨w.heap.size + 1, 7, none⟩ = some (.int .i64 p.l1) ∧ w7.cell? ⟨w.heap.size + 1, 8, none⟩ = some (.int .i64 p.l2) ∧ w7.cell? ⟨w.heap.size + 1, 9, none⟩ = some (.string p.image) ∧ w7.cell? ⟨w.heap.size + 1, 10, none⟩ = some (.int .i64 p.size) ∧ w7.cell? ⟨b, off + j * 11, none⟩ = some (.string y.id) ∧ w7.cell? ⟨b, off + j * 11 + 1, none⟩ = some (.int .i64 y.prio) ∧ w7.cell? ⟨b, off + j * 11 + 2, none⟩ = some (.bool y.crit) ∧ w7.cell? ⟨b, off + j * 11 + 3, none⟩ = some (.int .i64 y.q0) ∧ w7.cell? ⟨b, off + j * 11 + 4, none⟩ = some (.int .i64 y.q1) ∧ w7.cell? ⟨b, off + j * 11 + 5, none⟩ = some (.int .i64 y.q2) ∧ w7.cell? ⟨b, off + j * 11 + 6, none⟩ = some (.int .i64 y.l0) ∧ w7.cell? ⟨b, off + j * 11 + 7, none⟩ = some (.int .i64 y.l1) ∧ w7.cell? ⟨b, off + j * 11 + 8, none⟩ = some (.int .i64 y.l2) ∧ w7.cell? ⟨b, off + j * 11 + 9, none⟩ = some (.string y.image) ∧ w7.cell? ⟨b, off + j * 11 + 10, none⟩ = some (.int .i64 y.size) from spCells HQ.out HRi.out HYJ.out)
                  clear hK K
                  simp only [Act.put, List.setIfInBounds_toArray, List.set_cons_zero, List.set_cons_succ]
                  refine held_call 10 51 rfl rfl (by kernel_rfl) (by rfl) (fun K hK => ?_)
                  go_simp
                  have HO7 := Lib.hid (show Rds w7 encP A7 (S ++ [y]) from HOW.out.toRds)
                  go_at_call 33; with_reducible refine (refFitsN (show S.length + 1 = (S ++ [y]).length by simp) HV.out HO7.out HWSY.out (by simp; omega)).mono ?_; rintro e w9 ⟨rfl, hb⟩
                  have HB := Lib.hid (below_rV HB.out hb)
                  have HQ := Lib.hid (HQd.out.below HB.out)
                  have HRi := Lib.hid (HRd.out.below HB.out)
                  clear hb
                  refine hK _ _ (spCells HQ.out HRi.out HYJ.out) ?_
                  have hHeld := (show w9.cell? ⟨w.heap.size, 0, none⟩ = some (.int .i64 room.a) ∧ w9.cell? ⟨w.heap.size, 1, none⟩ = some (.int .i64 room.b) ∧ w9.cell? ⟨w.heap.size, 2, none⟩ = some (.int .i64 room.c) ∧ w9.cell? ⟨w.heap.size + 1, 0, none⟩ = some (.string p.id) ∧ w9.cell? ⟨w.heap.size + 1, 1, none⟩ = some (.int .i64 p.prio) ∧ w9.cell? ⟨w.heap.size + 1, 2, none⟩ = some (.bool p.crit) ∧ w9.cell? ⟨w.heap.size + 1, 3, none⟩ = some (.int .i64 p.q0) ∧ w9.cell? ⟨w.heap.size + 1, 4, none⟩ = some (.int .i64 p.q1) ∧ w9.cell? ⟨w.heap.size + 1, 5, none⟩ = some (.int .i64 p.q2) ∧ w9.cell? ⟨w.heap.size + 1, 6, none⟩ = some (.int .i64 p.l0) ∧ w9.cell? ⟨w.heap.size + 1, 7, none⟩ = some (.int .i64 p.l1) ∧ w9.cell? ⟨w.heap.size + 1, 8, none⟩ = some (.int .i64 p.l2) ∧ w9.cell? ⟨w.heap.size + 1, 9, none⟩ = some (.string p.image) ∧ w9.cell? ⟨w.heap.size + 1, 10, none⟩ = some (.int .i64 p.size) ∧ w9.cell? ⟨b, off + j * 11, none⟩ = some (.string y.id) ∧ w9.cell? ⟨b, off + j * 11 + 1, none⟩ = some (.int .i64 y.prio) ∧ w9.cell? ⟨b, off + j * 11 + 2, none⟩ = some (.bool y.crit) ∧ w9.cell? ⟨b, off + j * 11 + 3, none⟩ = some (.int .i64 y.q0) ∧ w9.cell? ⟨b, off + j * 11 + 4, none⟩ = some (.int .i64 y.q1) ∧ w9.cell? ⟨b, off + j * 11 + 5, none⟩ = some (.int .i64 y.q2) ∧ w9.cell? ⟨b, off + j * 11 + 6, none⟩ = some (.int .i64 y.l0) ∧ w9.cell? ⟨b, off + j * 11 + 7, none⟩ = some (.int .i64 y.l1) ∧ w9.cell? ⟨b, off + j * 11 + 8, none⟩ = some (.int .i64 y.l2) ∧ w9.cell? ⟨b, off + j * 11 + 9, none⟩ = some (.string y.image) ∧ w9.cell? ⟨b, off + j * 11 + 10, none⟩ = some (.int .i64 y.size) from spCells HQ.out HRi.out HYJ.out)
                  clear hK K
                  simp only [Act.put, List.setIfInBounds_toArray, List.set_cons_zero, List.set_cons_succ]
                  refine wpAnyH_done (by kernel_rfl) ?_ _
                  clear hHeld
                  go_wp2_with fail
                  go_meet
                  exact ⟨rfl, below_rV HBr.out HB.out⟩
                · go_simp
                  have hrw := Rds.made (wd.alloc (.cells #[] 29)) encP [y] 29 #[.string y.id, .int .i64 y.prio, .bool y.crit, .int .i64 y.q0, .int .i64 y.q1, .int .i64 y.q2, .int .i64 y.l0, .int .i64 y.l1, .int .i64 y.l2, .string y.image, .int .i64 y.size] (0, 0) rfl
                  rw [show (wd.alloc (.cells #[] 29)).heap.size = wd.heap.size + 1 from by simp] at hrw
                  have HOW := Lib.hid (HOW.out.alloc (.cells #[.string y.id, .int .i64 y.prio, .bool y.crit, .int .i64 y.q0, .int .i64 y.q1, .int .i64 y.q2, .int .i64 y.l0, .int .i64 y.l1, .int .i64 y.l2, .string y.image, .int .i64 y.size] 29))
                  have HRW := Lib.hid hrw
                  clear hrw
                  have HB := Lib.hid (HB.out.alloc HB.out.size (.cells #[.string y.id, .int .i64 y.prio, .bool y.crit, .int .i64 y.q0, .int .i64 y.q1, .int .i64 y.q2, .int .i64 y.l0, .int .i64 y.l1, .int .i64 y.l2, .string y.image, .int .i64 y.size] 29))
                  have HQ := Lib.hid (HQd.out.below HB.out)
                  have HRi := Lib.hid (HRd.out.below HB.out)
                  refine hK _ _ (spCells HQ.out HRi.out HYJ.out) ?_
                  have hHeld := (show ((wd.alloc (.cells #[] 29)).alloc (.cells #[.string y.id, .int .i64 y.prio, .bool y.crit, .int .i64 y.q0, .int .i64 y.q1, .int .i64 y.q2, .int .i64 y.l0, .int .i64 y.l1, .int .i64 y.l2, .string y.image, .int .i64 y.size] 29)).cell? ⟨w.heap.size, 0, none⟩ = some (.int .i64 room.a) ∧ ((wd.alloc (.cells #[] 29)).alloc (.cells #[.string y.id, .int .i64 y.prio, .bool y.crit, .int .i64 y.q0, .int .i64 y.q1, .int .i64 y.q2, .int .i64 y.l0, .int .i64 y.l1, .int .i64 y.l2, .string y.image, .int .i64 y.size] 29)).cell? ⟨w.heap.size, 1, none⟩ = some (.int .i64 room.b) ∧ ((wd.alloc (.cells #[] 29)).alloc (.cells #[.string y.id, .int .i64 y.prio, .bool y.crit, .int .i64 y.q0, .int .i64 y.q1, .int .i64 y.q2, .int .i64 y.l0, .int .i64 y.l1, .int .i64 y.l2, .string y.image, .int .i64 y.size] 29)).cell? ⟨w.heap.size, 2, none⟩ = some (.int .i64 room.c) ∧ ((wd.alloc (.cells #[] 29)).alloc (.cells #[.string y.id, .int .i64 y.prio, .bool y.crit, .int .i64 y.q0, .int .i64 y.q1, .int .i64 y.q2, .int .i64 y.l0, .int .i64 y.l1, .int .i64 y.l2, .string y.image, .int .i64 y.size] 29)).cell? ⟨w.heap.size + 1, 0, none⟩ = some (.string p.id) ∧ ((wd.alloc (.cells #[] 29)).alloc (.cells #[.string y.id, .int .i64 y.prio, .bool y.crit, .int .i64 y.q0, .int .i64 y.q1, .int .i64 y.q2, .int .i64 y.l0, .int .i64 y.l1, .int .i64 y.l2, .string y.image, .int .i64 y.size] 29)).cell? ⟨w.heap.size + 1, 1, none⟩ = some (.int .i64 p.prio) ∧ ((wd.alloc (.cells #[] 29)).alloc (.cells #[.string y.id, .int .i64 y.prio, .bool y.crit, .int .i64 y.q0, .int .i64 y.q1, .int .i64 y.q2, .int .i64 y.l0, .int .i64 y.l1, .int .i64 y.l2, .string y.image, .int .i64 y.size] 29)).cell? ⟨w.heap.size + 1, 2, none⟩ = some (.bool p.crit) ∧ ((wd.alloc (.cells #[] 29)).alloc (.cells #[.string y.id, .int .i64 y.prio, .bool y.crit, .int .i64 y.q0, .int .i64 y.q1, .int .i64 y.q2, .int .i64 y.l0, .int .i64 y.l1, .int .i64 y.l2, .string y.image, .int .i64 y.size] 29)).cell? ⟨w.heap.size + 1, 3, none⟩ = some (.int .i64 p.q0) ∧ ((wd.alloc (.cells #[] 29)).alloc (.cells #[.string y.id, .int .i64 y.prio, .bool y.crit, .int .i64 y.q0, .int .i64 y.q1, .int .i64 y.q2, .int .i64 y.l0, .int .i64 y.l1, .int .i64 y.l2, .string y.image, .int .i64 y.size] 29)).cell? ⟨w.heap.size + 1, 4, none⟩ = some (.int .i64 p.q1) ∧ ((wd.alloc (.cells #[] 29)).alloc (.cells #[.string y.id, .int .i64 y.prio, .bool y.crit, .int .i64 y.q0, .int .i64 y.q1, .int .i64 y.q2, .int .i64 y.l0, .int .i64 y.l1, .int .i64 y.l2, .string y.image, .int .i64 y.size] 29)).cell? ⟨w.heap.size + 1, 5, none⟩ = some (.int .i64 p.q2) ∧ ((wd.alloc (.cells #[] 29)).alloc (.cells #[.string y.id, .int .i64 y.prio, .bool y.crit, .int .i64 y.q0, .int .i64 y.q1, .int .i64 y.q2, .int .i64 y.l0, .int .i64 y.l1, .int .i64 y.l2, .string y.image, .int .i64 y.size] 29)).cell? ⟨w.heap.size + 1, 6, none⟩ = some (.int .i64 p.l0) ∧ ((wd.alloc (.cells #[] 29)).alloc (.cells #[.string y.id, .int .i64 y.prio, .bool y.crit, .int .i64 y.q0, .int .i64 y.q1, .int .i64 y.q2, .int .i64 y.l0, .int .i64 y.l1, .int .i64 y.l2, .string y.image, .int .i64 y.size] 29)).cell? ⟨w.heap.size + 1, 7, none⟩ = some (.int .i64 p.l1) ∧ ((wd.alloc (.cells #[] 29)).alloc (.cells #[.string y.id, .int .i64 y.prio, .bool y.crit, .int .i64 y.q0, .int .i64 y.q1, .int .i64 y.q2, .int .i64 y.l0, .int .i64 y.l1, .int .i64 y.l2, .string y.image, .int .i64 y.size] 29)).cell? ⟨w.heap.size + 1, 8, none⟩ = some (.int .i64 p.l2) ∧ ((wd.alloc (.cells #[] 29)).alloc (.cells #[.string y.id, .int .i64 y.prio, .bool y.crit, .int .i64 y.q0, .int .i64 y.q1, .int .i64 y.q2, .int .i64 y.l0, .int .i64 y.l1, .int .i64 y.l2, .string y.image, .int .i64 y.size] 29)).cell? ⟨w.heap.size + 1, 9, none⟩ = some (.string p.image) ∧ ((wd.alloc (.cells #[] 29)).alloc (.cells #[.string y.id, .int .i64 y.prio, .bool y.crit, .int .i64 y.q0, .int .i64 y.q1, .int .i64 y.q2, .int .i64 y.l0, .int .i64 y.l1, .int .i64 y.l2, .string y.image, .int .i64 y.size] 29)).cell? ⟨w.heap.size + 1, 10, none⟩ = some (.int .i64 p.size) ∧ ((wd.alloc (.cells #[] 29)).alloc (.cells #[.string y.id, .int .i64 y.prio, .bool y.crit, .int .i64 y.q0, .int .i64 y.q1, .int .i64 y.q2, .int .i64 y.l0, .int .i64 y.l1, .int .i64 y.l2, .string y.image, .int .i64 y.size] 29)).cell? ⟨b, off + j * 11, none⟩ = some (.string y.id) ∧ ((wd.alloc (.cells #[] 29)).alloc (.cells #[.string y.id, .int .i64 y.prio, .bool y.crit, .int .i64 y.q0, .int .i64 y.q1, .int .i64 y.q2, .int .i64 y.l0, .int .i64 y.l1, .int .i64 y.l2, .string y.image, .int .i64 y.size] 29)).cell? ⟨b, off + j * 11 + 1, none⟩ = some (.int .i64 y.prio) ∧ ((wd.alloc (.cells #[] 29)).alloc (.cells #[.string y.id, .int .i64 y.prio, .bool y.crit, .int .i64 y.q0, .int .i64 y.q1, .int .i64 y.q2, .int .i64 y.l0, .int .i64 y.l1, .int .i64 y.l2, .string y.image, .int .i64 y.size] 29)).cell? ⟨b, off + j * 11 + 2, none⟩ = some (.bool y.crit) ∧ ((wd.alloc (.cells #[] 29)).alloc (.cells #[.string y.id, .int .i64 y.prio, .bool y.crit, .int .i64 y.q0, .int .i64 y.q1, .int .i64 y.q2, .int .i64 y.l0, .int .i64 y.l1, .int .i64 y.l2, .string y.image, .int .i64 y.size] 29)).cell? ⟨b, off + j * 11 + 3, none⟩ = some (.int .i64 y.q0) ∧ ((wd.alloc (.cells #[] 29)).alloc (.cells #[.string y.id, .int .i64 y.prio, .bool y.crit, .int .i64 y.q0, .int .i64 y.q1, .int .i64 y.q2, .int .i64 y.l0, .int .i64 y.l1, .int .i64 y.l2, .string y.image, .int .i64 y.size] 29)).cell? ⟨b, off + j * 11 + 4, none⟩ = some (.int .i64 y.q1) ∧ ((wd.alloc (.cells #[] 29)).alloc (.cells #[.string y.id, .int .i64 y.prio, .bool y.crit, .int .i64 y.q0, .int .i64 y.q1, .int .i64 y.q2, .int .i64 y.l0, .int .i64 y.l1, .int .i64 y.l2, .string y.image, .int .i64 y.size] 29)).cell? ⟨b, off + j * 11 + 5, none⟩ = some (.int .i64 y.q2) ∧ ((wd.alloc (.cells #[] 29)).alloc (.cells #[.string y.id, .int .i64 y.prio, .bool y.crit, .int .i64 y.q0, .int .i64 y.q1, .int .i64 y.q2, .int .i64 y.l0, .int .i64 y.l1, .int .i64 y.l2, .string y.image, .int .i64 y.size] 29)).cell? ⟨b, off + j * 11 + 6, none⟩ = some (.int .i64 y.l0) ∧ ((wd.alloc (.cells #[] 29)).alloc (.cells #[.string y.id, .int .i64 y.prio, .bool y.crit, .int .i64 y.q0, .int .i64 y.q1, .int .i64 y.q2, .int .i64 y.l0, .int .i64 y.l1, .int .i64 y.l2, .string y.image, .int .i64 y.size] 29)).cell? ⟨b, off + j * 11 + 7, none⟩ = some (.int .i64 y.l1) ∧ ((wd.alloc (.cells #[] 29)).alloc (.cells #[.string y.id, .int .i64 y.prio, .bool y.crit, .int .i64 y.q0, .int .i64 y.q1, .int .i64 y.q2, .int .i64 y.l0, .int .i64 y.l1, .int .i64 y.l2, .string y.image, .int .i64 y.size] 29)).cell? ⟨b, off + j * 11 + 8, none⟩ = some (.int .i64 y.l2) ∧ ((wd.alloc (.cells #[] 29)).alloc (.cells #[.string y.id, .int .i64 y.prio, .bool y.crit, .int .i64 y.q0, .int .i64 y.q1, .int .i64 y.q2, .int .i64 y.l0, .int .i64 y.l1, .int .i64 y.l2, .string y.image, .int .i64 y.size] 29)).cell? ⟨b, off + j * 11 + 9, none⟩ = some (.string y.image) ∧ ((wd.alloc (.cells #[] 29)).alloc (.cells #[.string y.id, .int .i64 y.prio, .bool y.crit, .int .i64 y.q0, .int .i64 y.q1, .int .i64 y.q2, .int .i64 y.l0, .int .i64 y.l1, .int .i64 y.l2, .string y.image, .int .i64 y.size] 29)).cell? ⟨b, off + j * 11 + 10, none⟩ = some (.int .i64 y.size) from spCells HQ.out HRi.out HYJ.out)
                  clear hK K
                  simp only [Act.put, List.setIfInBounds_toArray, List.set_cons_zero, List.set_cons_succ]
                  refine held_call 3 44 rfl rfl (by kernel_rfl) (by rfl) (fun K hK => ?_)
                  refine wp_app ((wd.alloc (.cells #[] 29)).alloc (.cells #[.string y.id, .int .i64 y.prio, .bool y.crit, .int .i64 y.q0, .int .i64 y.q1, .int .i64 y.q2, .int .i64 y.l0, .int .i64 y.l1, .int .i64 y.l2, .string y.image, .int .i64 y.size] 29)) elemP encP (.tmp 42) (.tmp 43) rfl wd.heap.size _ [] (by simp [Act.eval]) HOW.out A8 S c8 (by simp [Act.eval]) (HSd.out.below (HB.out.mono (by simp))) (by simp; omega) (by simp; omega) HB.out.size ?_
                  intro A5 c5 w5 ho hg _
                  have hb5 := HOW.out.belowGrown HB.out hg (Nat.le_refl _) HB.out.size
                  have HRW := Lib.hid (HRW.out.grownN hg (by simp [Value.ownBlock]))
                  have how : Own w5 wd.heap.size 29 encP (.slice A5 (S).length c5) S := by simpa using ho
                  have HOW := Lib.hid how
                  have HB := Lib.hid hb5
                  clear ho how hg hb5
                  have HQ := Lib.hid (HQd.out.below HB.out)
                  have HRi := Lib.hid (HRd.out.below HB.out)
                  simp only [List.length_nil, Nat.zero_add]
                  refine hK _ _ (spCells HQ.out HRi.out HYJ.out) ?_
                  have hHeld := (show w5.cell? ⟨w.heap.size, 0, none⟩ = some (.int .i64 room.a) ∧ w5.cell? ⟨w.heap.size, 1, none⟩ = some (.int .i64 room.b) ∧ w5.cell? ⟨w.heap.size, 2, none⟩ = some (.int .i64 room.c) ∧ w5.cell? ⟨w.heap.size + 1, 0, none⟩ = some (.string p.id) ∧ w5.cell? ⟨w.heap.size + 1, 1, none⟩ = some (.int .i64 p.prio) ∧ w5.cell? ⟨w.heap.size + 1, 2, none⟩ = some (.bool p.crit) ∧ w5.cell? ⟨w.heap.size + 1, 3, none⟩ = some (.int .i64 p.q0) ∧ w5.cell? ⟨w.heap.size + 1, 4, none⟩ = some (.int .i64 p.q1) ∧ w5.cell? ⟨w.heap.size + 1, 5, none⟩ = some (.int .i64 p.q2) ∧ w5.cell? ⟨w.heap.size + 1, 6, none⟩ = some (.int .i64 p.l0) ∧ w5.cell? ⟨w.heap.size + 1, 7, none⟩ = some (.int .i64 p.l1) ∧ w5.cell? ⟨w.heap.size + 1, 8, none⟩ = some (.int .i64 p.l2) ∧ w5.cell? ⟨w.heap.size + 1, 9, none⟩ = some (.string p.image) ∧ w5.cell? ⟨w.heap.size + 1, 10, none⟩ = some (.int .i64 p.size) ∧ w5.cell? ⟨b, off + j * 11, none⟩ = some (.string y.id) ∧ w5.cell? ⟨b, off + j * 11 + 1, none⟩ = some (.int .i64 y.prio) ∧ w5.cell? ⟨b, off + j * 11 + 2, none⟩ = some (.bool y.crit) ∧ w5.cell? ⟨b, off + j * 11 + 3, none⟩ = some (.int .i64 y.q0) ∧ w5.cell? ⟨b, off + j * 11 + 4, none⟩ = some (.int .i64 y.q1) ∧ w5.cell? ⟨b, off + j * 11 + 5, none⟩ = some (.int .i64 y.q2) ∧ w5.cell? ⟨b, off + j * 11 + 6, none⟩ = some (.int .i64 y.l0) ∧ w5.cell? ⟨b, off + j * 11 + 7, none⟩ = some (.int .i64 y.l1) ∧ w5.cell? ⟨b, off + j * 11 + 8, none⟩ = some (.int .i64 y.l2) ∧ w5.cell? ⟨b, off + j * 11 + 9, none⟩ = some (.string y.image) ∧ w5.cell? ⟨b, off + j * 11 + 10, none⟩ = some (.int .i64 y.size) from spCells HQ.out HRi.out HYJ.out)
                  clear hK K
                  simp only [Act.put, List.setIfInBounds_toArray, List.set_cons_zero, List.set_cons_succ]
                  refine held_call 9 50 rfl rfl (by kernel_rfl) (by rfl) (fun K hK => ?_)
                  refine wp_app (w5) elemP encP (.tmp 44) (.tmp 49) rfl wd.heap.size _ S (by simp [Act.eval]) HOW.out _ [y] 1 (by simp [Act.eval]) HRW.out (by simp; omega) (by simp; omega) HB.out.size ?_
                  intro A7 c7 w7 ho hg _
                  have hb7 := HOW.out.belowGrown HB.out hg (Nat.le_refl _) HB.out.size
                  have HOW := Lib.hid ho
                  have HB := Lib.hid hb7
                  clear ho hg hb7
                  have HQ := Lib.hid (HQd.out.below HB.out)
                  have HRi := Lib.hid (HRd.out.below HB.out)
                  refine hK _ _ (spCells HQ.out HRi.out HYJ.out) ?_
                  have hHeld := (show w7.cell? ⟨w.heap.size, 0, none⟩ = some (.int .i64 room.a) ∧ w7.cell? ⟨w.heap.size, 1, none⟩ = some (.int .i64 room.b) ∧ w7.cell? ⟨w.heap.size, 2, none⟩ = some (.int .i64 room.c) ∧ w7.cell? ⟨w.heap.size + 1, 0, none⟩ = some (.string p.id) ∧ w7.cell? ⟨w.heap.size + 1, 1, none⟩ = some (.int .i64 p.prio) ∧ w7.cell? ⟨w.heap.size + 1, 2, none⟩ = some (.bool p.crit) ∧ w7.cell? ⟨w.heap.size + 1, 3, none⟩ = some (.int .i64 p.q0) ∧ w7.cell? ⟨w.heap.size + 1, 4, none⟩ = some (.int .i64 p.q1) ∧ w7.cell? ⟨w.heap.size + 1, 5, none⟩ = some (.int .i64 p.q2) ∧ w7.cell? ⟨w.heap.size + 1, 6, none⟩ = some (.int .i64 p.l0) ∧ w7.cell? ⟨w.heap.size + 1, 7, none⟩ = some (.int .i64 p.l1) ∧ w7.cell? ⟨w.heap.size + 1, 8, none⟩ = some (.int .i64 p.l2) ∧ w7.cell? ⟨w.heap.size + 1, 9, none⟩ = some (.string p.image) ∧ w7.cell? ⟨w.heap.size + 1, 10, none⟩ = some (.int .i64 p.size) ∧ w7.cell? ⟨b, off + j * 11, none⟩ = some (.string y.id) ∧ w7.cell? ⟨b, off + j * 11 + 1, none⟩ = some (.int .i64 y.prio) ∧ w7.cell? ⟨b, off + j * 11 + 2, none⟩ = some (.bool y.crit) ∧ w7.cell? ⟨b, off + j * 11 + 3, none⟩ = some (.int .i64 y.q0) ∧ w7.cell? ⟨b, off + j * 11 + 4, none⟩ = some (.int .i64 y.q1) ∧ w7.cell? ⟨b, off + j * 11 + 5, none⟩ = some (.int .i64 y.q2) ∧ w7.cell? ⟨b, off + j * 11 + 6, none⟩ = some (.int .i64 y.l0) ∧ w7.cell? ⟨b, off + j * 11 + 7, none⟩ = some (.int .i64 y.l1) ∧ w7.cell? ⟨b, off + j * 11 + 8, none⟩ = some (.int .i64 y.l2) ∧ w7.cell? ⟨b, off + j * 11 + 9, none⟩ = some (.string y.image) ∧ w7.cell? ⟨b, off + j * 11 + 10, none⟩ = some (.int .i64 y.size) from spCells HQ.out HRi.out HYJ.out)
                  clear hK K
                  simp only [Act.put, List.setIfInBounds_toArray, List.set_cons_zero, List.set_cons_succ]
                  refine held_call 10 51 rfl rfl (by kernel_rfl) (by rfl) (fun K hK => ?_)
                  go_simp
                  have HO7 := Lib.hid (show Rds w7 encP A7 (S ++ [y]) from HOW.out.toRds)
                  go_at_call 33; with_reducible refine (refFitsN (show S.length + 1 = (S ++ [y]).length by simp) HV.out HO7.out HWSY.out (by simp; omega)).mono ?_; rintro e w9 ⟨rfl, hb⟩
                  have HB := Lib.hid (below_rV HB.out hb)
                  have HQ := Lib.hid (HQd.out.below HB.out)
                  have HRi := Lib.hid (HRd.out.below HB.out)
                  clear hb
                  refine hK _ _ (spCells HQ.out HRi.out HYJ.out) ?_
                  have hHeld := (show w9.cell? ⟨w.heap.size, 0, none⟩ = some (.int .i64 room.a) ∧ w9.cell? ⟨w.heap.size, 1, none⟩ = some (.int .i64 room.b) ∧ w9.cell? ⟨w.heap.size, 2, none⟩ = some (.int .i64 room.c) ∧ w9.cell? ⟨w.heap.size + 1, 0, none⟩ = some (.string p.id) ∧ w9.cell? ⟨w.heap.size + 1, 1, none⟩ = some (.int .i64 p.prio) ∧ w9.cell? ⟨w.heap.size + 1, 2, none⟩ = some (.bool p.crit) ∧ w9.cell? ⟨w.heap.size + 1, 3, none⟩ = some (.int .i64 p.q0) ∧ w9.cell? ⟨w.heap.size + 1, 4, none⟩ = some (.int .i64 p.q1) ∧ w9.cell? ⟨w.heap.size + 1, 5, none⟩ = some (.int .i64 p.q2) ∧ w9.cell? ⟨w.heap.size + 1, 6, none⟩ = some (.int .i64 p.l0) ∧ w9.cell? ⟨w.heap.size + 1, 7, none⟩ = some (.int .i64 p.l1) ∧ w9.cell? ⟨w.heap.size + 1, 8, none⟩ = some (.int .i64 p.l2) ∧ w9.cell? ⟨w.heap.size + 1, 9, none⟩ = some (.string p.image) ∧ w9.cell? ⟨w.heap.size + 1, 10, none⟩ = some (.int .i64 p.size) ∧ w9.cell? ⟨b, off + j * 11, none⟩ = some (.string y.id) ∧ w9.cell? ⟨b, off + j * 11 + 1, none⟩ = some (.int .i64 y.prio) ∧ w9.cell? ⟨b, off + j * 11 + 2, none⟩ = some (.bool y.crit) ∧ w9.cell? ⟨b, off + j * 11 + 3, none⟩ = some (.int .i64 y.q0) ∧ w9.cell? ⟨b, off + j * 11 + 4, none⟩ = some (.int .i64 y.q1) ∧ w9.cell? ⟨b, off + j * 11 + 5, none⟩ = some (.int .i64 y.q2) ∧ w9.cell? ⟨b, off + j * 11 + 6, none⟩ = some (.int .i64 y.l0) ∧ w9.cell? ⟨b, off + j * 11 + 7, none⟩ = some (.int .i64 y.l1) ∧ w9.cell? ⟨b, off + j * 11 + 8, none⟩ = some (.int .i64 y.l2) ∧ w9.cell? ⟨b, off + j * 11 + 9, none⟩ = some (.string y.image) ∧ w9.cell? ⟨b, off + j * 11 + 10, none⟩ = some (.int .i64 y.size) from spCells HQ.out HRi.out HYJ.out)
                  clear hK K
                  simp only [Act.put, List.setIfInBounds_toArray, List.set_cons_zero, List.set_cons_succ]
                  refine wpAnyH_done (by kernel_rfl) ?_ _
                  clear hHeld
                  go_wp2_with fail
                  go_meet
                  exact ⟨rfl, below_rV HBr.out HB.out⟩
              · go_simp
                have hrw := Rds.made (wd) encP [y] 29 #[.string y.id, .int .i64 y.prio, .bool y.crit, .int .i64 y.q0, .int .i64 y.q1, .int .i64 y.q2, .int .i64 y.l0, .int .i64 y.l1, .int .i64 y.l2, .string y.image, .int .i64 y.size] (0, 0) rfl
                have HRW := Lib.hid hrw
                clear hrw
                have HB := Lib.hid (HB.out.alloc HB.out.size (.cells #[.string y.id, .int .i64 y.prio, .bool y.crit, .int .i64 y.q0, .int .i64 y.q1, .int .i64 y.q2, .int .i64 y.l0, .int .i64 y.l1, .int .i64 y.l2, .string y.image, .int .i64 y.size] 29))
                have HQ := Lib.hid (HQd.out.below HB.out)
                have HRi := Lib.hid (HRd.out.below HB.out)
                refine hK _ _ (spCells HQ.out HRi.out HYJ.out) ?_
                have hHeld := (show ((wd).alloc (.cells #[.string y.id, .int .i64 y.prio, .bool y.crit, .int .i64 y.q0, .int .i64 y.q1, .int .i64 y.q2, .int .i64 y.l0, .int .i64 y.l1, .int .i64 y.l2, .string y.image, .int .i64 y.size] 29)).cell? ⟨w.heap.size, 0, none⟩ = some (.int .i64 room.a) ∧ ((wd).alloc (.cells #[.string y.id, .int .i64 y.prio, .bool y.crit, .int .i64 y.q0, .int .i64 y.q1, .int .i64 y.q2, .int .i64 y.l0, .int .i64 y.l1, .int .i64 y.l2, .string y.image, .int .i64 y.size] 29)).cell? ⟨w.heap.size, 1, none⟩ = some (.int .i64 room.b) ∧ ((wd).alloc (.cells #[.string y.id, .int .i64 y.prio, .bool y.crit, .int .i64 y.q0, .int .i64 y.q1, .int .i64 y.q2, .int .i64 y.l0, .int .i64 y.l1, .int .i64 y.l2, .string y.image, .int .i64 y.size] 29)).cell? ⟨w.heap.size, 2, none⟩ = some (.int .i64 room.c) ∧ ((wd).alloc (.cells #[.string y.id, .int .i64 y.prio, .bool y.crit, .int .i64 y.q0, .int .i64 y.q1, .int .i64 y.q2, .int .i64 y.l0, .int .i64 y.l1, .int .i64 y.l2, .string y.image, .int .i64 y.size] 29)).cell? ⟨w.heap.size + 1, 0, none⟩ = some (.string p.id) ∧ ((wd).alloc (.cells #[.string y.id, .int .i64 y.prio, .bool y.crit, .int .i64 y.q0, .int .i64 y.q1, .int .i64 y.q2, .int .i64 y.l0, .int .i64 y.l1, .int .i64 y.l2, .string y.image, .int .i64 y.size] 29)).cell? ⟨w.heap.size + 1, 1, none⟩ = some (.int .i64 p.prio) ∧ ((wd).alloc (.cells #[.string y.id, .int .i64 y.prio, .bool y.crit, .int .i64 y.q0, .int .i64 y.q1, .int .i64 y.q2, .int .i64 y.l0, .int .i64 y.l1, .int .i64 y.l2, .string y.image, .int .i64 y.size] 29)).cell? ⟨w.heap.size + 1, 2, none⟩ = some (.bool p.crit) ∧ ((wd).alloc (.cells #[.string y.id, .int .i64 y.prio, .bool y.crit, .int .i64 y.q0, .int .i64 y.q1, .int .i64 y.q2, .int .i64 y.l0, .int .i64 y.l1, .int .i64 y.l2, .string y.image, .int .i64 y.size] 29)).cell? ⟨w.heap.size + 1, 3, none⟩ = some (.int .i64 p.q0) ∧ ((wd).alloc (.cells #[.string y.id, .int .i64 y.prio, .bool y.crit, .int .i64 y.q0, .int .i64 y.q1, .int .i64 y.q2, .int .i64 y.l0, .int .i64 y.l1, .int .i64 y.l2, .string y.image, .int .i64 y.size] 29)).cell? ⟨w.heap.size + 1, 4, none⟩ = some (.int .i64 p.q1) ∧ ((wd).alloc (.cells #[.string y.id, .int .i64 y.prio, .bool y.crit, .int .i64 y.q0, .int .i64 y.q1, .int .i64 y.q2, .int .i64 y.l0, .int .i64 y.l1, .int .i64 y.l2, .string y.image, .int .i64 y.size] 29)).cell? ⟨w.heap.size + 1, 5, none⟩ = some (.int .i64 p.q2) ∧ ((wd).alloc (.cells #[.string y.id, .int .i64 y.prio, .bool y.crit, .int .i64 y.q0, .int .i64 y.q1, .int .i64 y.q2, .int .i64 y.l0, .int .i64 y.l1, .int .i64 y.l2, .string y.image, .int .i64 y.size] 29)).cell? ⟨w.heap.size + 1, 6, none⟩ = some (.int .i64 p.l0) ∧ ((wd).alloc (.cells #[.string y.id, .int .i64 y.prio, .bool y.crit, .int .i64 y.q0, .int .i64 y.q1, .int .i64 y.q2, .int .i64 y.l0, .int .i64 y.l1, .int .i64 y.l2, .string y.image, .int .i64 y.size] 29)).cell? ⟨w.heap.size + 1, 7, none⟩ = some (.int .i64 p.l1) ∧ ((wd).alloc (.cells #[.string y.id, .int .i64 y.prio, .bool y.crit, .int .i64 y.q0, .int .i64 y.q1, .int .i64 y.q2, .int .i64 y.l0, .int .i64 y.l1, .int .i64 y.l2, .string y.image, .int .i64 y.size] 29)).cell? ⟨w.heap.size + 1, 8, none⟩ = some (.int .i64 p.l2) ∧ ((wd).alloc (.cells #[.string y.id, .int .i64 y.prio, .bool y.crit, .int .i64 y.q0, .int .i64 y.q1, .int .i64 y.q2, .int .i64 y.l0, .int .i64 y.l1, .int .i64 y.l2, .string y.image, .int .i64 y.size] 29)).cell? ⟨w.heap.size + 1, 9, none⟩ = some (.string p.image) ∧ ((wd).alloc (.cells #[.string y.id, .int .i64 y.prio, .bool y.crit, .int .i64 y.q0, .int .i64 y.q1, .int .i64 y.q2, .int .i64 y.l0, .int .i64 y.l1, .int .i64 y.l2, .string y.image, .int .i64 y.size] 29)).cell? ⟨w.heap.size + 1, 10, none⟩ = some (.int .i64 p.size) ∧ ((wd).alloc (.cells #[.string y.id, .int .i64 y.prio, .bool y.crit, .int .i64 y.q0, .int .i64 y.q1, .int .i64 y.q2, .int .i64 y.l0, .int .i64 y.l1, .int .i64 y.l2, .string y.image, .int .i64 y.size] 29)).cell? ⟨b, off + j * 11, none⟩ = some (.string y.id) ∧ ((wd).alloc (.cells #[.string y.id, .int .i64 y.prio, .bool y.crit, .int .i64 y.q0, .int .i64 y.q1, .int .i64 y.q2, .int .i64 y.l0, .int .i64 y.l1, .int .i64 y.l2, .string y.image, .int .i64 y.size] 29)).cell? ⟨b, off + j * 11 + 1, none⟩ = some (.int .i64 y.prio) ∧ ((wd).alloc (.cells #[.string y.id, .int .i64 y.prio, .bool y.crit, .int .i64 y.q0, .int .i64 y.q1, .int .i64 y.q2, .int .i64 y.l0, .int .i64 y.l1, .int .i64 y.l2, .string y.image, .int .i64 y.size] 29)).cell? ⟨b, off + j * 11 + 2, none⟩ = some (.bool y.crit) ∧ ((wd).alloc (.cells #[.string y.id, .int .i64 y.prio, .bool y.crit, .int .i64 y.q0, .int .i64 y.q1, .int .i64 y.q2, .int .i64 y.l0, .int .i64 y.l1, .int .i64 y.l2, .string y.image, .int .i64 y.size] 29)).cell? ⟨b, off + j * 11 + 3, none⟩ = some (.int .i64 y.q0) ∧ ((wd).alloc (.cells #[.string y.id, .int .i64 y.prio, .bool y.crit, .int .i64 y.q0, .int .i64 y.q1, .int .i64 y.q2, .int .i64 y.l0, .int .i64 y.l1, .int .i64 y.l2, .string y.image, .int .i64 y.size] 29)).cell? ⟨b, off + j * 11 + 4, none⟩ = some (.int .i64 y.q1) ∧ ((wd).alloc (.cells #[.string y.id, .int .i64 y.prio, .bool y.crit, .int .i64 y.q0, .int .i64 y.q1, .int .i64 y.q2, .int .i64 y.l0, .int .i64 y.l1, .int .i64 y.l2, .string y.image, .int .i64 y.size] 29)).cell? ⟨b, off + j * 11 + 5, none⟩ = some (.int .i64 y.q2) ∧ ((wd).alloc (.cells #[.string y.id, .int .i64 y.prio, .bool y.crit, .int .i64 y.q0, .int .i64 y.q1, .int .i64 y.q2, .int .i64 y.l0, .int .i64 y.l1, .int .i64 y.l2, .string y.image, .int .i64 y.size] 29)).cell? ⟨b, off + j * 11 + 6, none⟩ = some (.int .i64 y.l0) ∧ ((wd).alloc (.cells #[.string y.id, .int .i64 y.prio, .bool y.crit, .int .i64 y.q0, .int .i64 y.q1, .int .i64 y.q2, .int .i64 y.l0, .int .i64 y.l1, .int .i64 y.l2, .string y.image, .int .i64 y.size] 29)).cell? ⟨b, off + j * 11 + 7, none⟩ = some (.int .i64 y.l1) ∧ ((wd).alloc (.cells #[.string y.id, .int .i64 y.prio, .bool y.crit, .int .i64 y.q0, .int .i64 y.q1, .int .i64 y.q2, .int .i64 y.l0, .int .i64 y.l1, .int .i64 y.l2, .string y.image, .int .i64 y.size] 29)).cell? ⟨b, off + j * 11 + 8, none⟩ = some (.int .i64 y.l2) ∧ ((wd).alloc (.cells #[.string y.id, .int .i64 y.prio, .bool y.crit, .int .i64 y.q0, .int .i64 y.q1, .int .i64 y.q2, .int .i64 y.l0, .int .i64 y.l1, .int .i64 y.l2, .string y.image, .int .i64 y.size] 29)).cell? ⟨b, off + j * 11 + 9, none⟩ = some (.string y.image) ∧ ((wd).alloc (.cells #[.string y.id, .int .i64 y.prio, .bool y.crit, .int .i64 y.q0, .int .i64 y.q1, .int .i64 y.q2, .int .i64 y.l0, .int .i64 y.l1, .int .i64 y.l2, .string y.image, .int .i64 y.size] 29)).cell? ⟨b, off + j * 11 + 10, none⟩ = some (.int .i64 y.size) from spCells HQ.out HRi.out HYJ.out)
                clear hK K
                simp only [Act.put, List.setIfInBounds_toArray, List.set_cons_zero, List.set_cons_succ]
                refine held_call 1 42 rfl rfl (by kernel_rfl) (by rfl) (fun K hK => ?_)
                go_simp
                have how := Own.made (wd.alloc (.cells #[.string y.id, .int .i64 y.prio, .bool y.crit, .int .i64 y.q0, .int .i64 y.q1, .int .i64 y.q2, .int .i64 y.l0, .int .i64 y.l1, .int .i64 y.l2, .string y.image, .int .i64 y.size] 29)) wd.heap.size 29 encP [] #[] rfl HB.out.size (by simp)
                rw [show (wd.alloc (.cells #[.string y.id, .int .i64 y.prio, .bool y.crit, .int .i64 y.q0, .int .i64 y.q1, .int .i64 y.q2, .int .i64 y.l0, .int .i64 y.l1, .int .i64 y.l2, .string y.image, .int .i64 y.size] 29)).heap.size = wd.heap.size + 1 from by simp] at how
                have HRW := Lib.hid (HRW.out.alloc (.cells #[] 29))
                have HOW := Lib.hid how
                clear how
                have HB := Lib.hid (HB.out.alloc HB.out.size (.cells #[] 29))
                have HQ := Lib.hid (HQd.out.below HB.out)
                have HRi := Lib.hid (HRd.out.below HB.out)
                refine hK _ _ (spCells HQ.out HRi.out HYJ.out) ?_
                have hHeld := (show ((wd.alloc (.cells #[.string y.id, .int .i64 y.prio, .bool y.crit, .int .i64 y.q0, .int .i64 y.q1, .int .i64 y.q2, .int .i64 y.l0, .int .i64 y.l1, .int .i64 y.l2, .string y.image, .int .i64 y.size] 29)).alloc (.cells #[] 29)).cell? ⟨w.heap.size, 0, none⟩ = some (.int .i64 room.a) ∧ ((wd.alloc (.cells #[.string y.id, .int .i64 y.prio, .bool y.crit, .int .i64 y.q0, .int .i64 y.q1, .int .i64 y.q2, .int .i64 y.l0, .int .i64 y.l1, .int .i64 y.l2, .string y.image, .int .i64 y.size] 29)).alloc (.cells #[] 29)).cell? ⟨w.heap.size, 1, none⟩ = some (.int .i64 room.b) ∧ ((wd.alloc (.cells #[.string y.id, .int .i64 y.prio, .bool y.crit, .int .i64 y.q0, .int .i64 y.q1, .int .i64 y.q2, .int .i64 y.l0, .int .i64 y.l1, .int .i64 y.l2, .string y.image, .int .i64 y.size] 29)).alloc (.cells #[] 29)).cell? ⟨w.heap.size, 2, none⟩ = some (.int .i64 room.c) ∧ ((wd.alloc (.cells #[.string y.id, .int .i64 y.prio, .bool y.crit, .int .i64 y.q0, .int .i64 y.q1, .int .i64 y.q2, .int .i64 y.l0, .int .i64 y.l1, .int .i64 y.l2, .string y.image, .int .i64 y.size] 29)).alloc (.cells #[] 29)).cell? ⟨w.heap.size + 1, 0, none⟩ = some (.string p.id) ∧ ((wd.alloc (.cells #[.string y.id, .int .i64 y.prio, .bool y.crit, .int .i64 y.q0, .int .i64 y.q1, .int .i64 y.q2, .int .i64 y.l0, .int .i64 y.l1, .int .i64 y.l2, .string y.image, .int .i64 y.size] 29)).alloc (.cells #[] 29)).cell? ⟨w.heap.size + 1, 1, none⟩ = some (.int .i64 p.prio) ∧ ((wd.alloc (.cells #[.string y.id, .int .i64 y.prio, .bool y.crit, .int .i64 y.q0, .int .i64 y.q1, .int .i64 y.q2, .int .i64 y.l0, .int .i64 y.l1, .int .i64 y.l2, .string y.image, .int .i64 y.size] 29)).alloc (.cells #[] 29)).cell? ⟨w.heap.size + 1, 2, none⟩ = some (.bool p.crit) ∧ ((wd.alloc (.cells #[.string y.id, .int .i64 y.prio, .bool y.crit, .int .i64 y.q0, .int .i64 y.q1, .int .i64 y.q2, .int .i64 y.l0, .int .i64 y.l1, .int .i64 y.l2, .string y.image, .int .i64 y.size] 29)).alloc (.cells #[] 29)).cell? ⟨w.heap.size + 1, 3, none⟩ = some (.int .i64 p.q0) ∧ ((wd.alloc (.cells #[.string y.id, .int .i64 y.prio, .bool y.crit, .int .i64 y.q0, .int .i64 y.q1, .int .i64 y.q2, .int .i64 y.l0, .int .i64 y.l1, .int .i64 y.l2, .string y.image, .int .i64 y.size] 29)).alloc (.cells #[] 29)).cell? ⟨w.heap.size + 1, 4, none⟩ = some (.int .i64 p.q1) ∧ ((wd.alloc (.cells #[.string y.id, .int .i64 y.prio, .bool y.crit, .int .i64 y.q0, .int .i64 y.q1, .int .i64 y.q2, .int .i64 y.l0, .int .i64 y.l1, .int .i64 y.l2, .string y.image, .int .i64 y.size] 29)).alloc (.cells #[] 29)).cell? ⟨w.heap.size + 1, 5, none⟩ = some (.int .i64 p.q2) ∧ ((wd.alloc (.cells #[.string y.id, .int .i64 y.prio, .bool y.crit, .int .i64 y.q0, .int .i64 y.q1, .int .i64 y.q2, .int .i64 y.l0, .int .i64 y.l1, .int .i64 y.l2, .string y.image, .int .i64 y.size] 29)).alloc (.cells #[] 29)).cell? ⟨w.heap.size + 1, 6, none⟩ = some (.int .i64 p.l0) ∧ ((wd.alloc (.cells #[.string y.id, .int .i64 y.prio, .bool y.crit, .int .i64 y.q0, .int .i64 y.q1, .int .i64 y.q2, .int .i64 y.l0, .int .i64 y.l1, .int .i64 y.l2, .string y.image, .int .i64 y.size] 29)).alloc (.cells #[] 29)).cell? ⟨w.heap.size + 1, 7, none⟩ = some (.int .i64 p.l1) ∧ ((wd.alloc (.cells #[.string y.id, .int .i64 y.prio, .bool y.crit, .int .i64 y.q0, .int .i64 y.q1, .int .i64 y.q2, .int .i64 y.l0, .int .i64 y.l1, .int .i64 y.l2, .string y.image, .int .i64 y.size] 29)).alloc (.cells #[] 29)).cell? ⟨w.heap.size + 1, 8, none⟩ = some (.int .i64 p.l2) ∧ ((wd.alloc (.cells #[.string y.id, .int .i64 y.prio, .bool y.crit, .int .i64 y.q0, .int .i64 y.q1, .int .i64 y.q2, .int .i64 y.l0, .int .i64 y.l1, .int .i64 y.l2, .string y.image, .int .i64 y.size] 29)).alloc (.cells #[] 29)).cell? ⟨w.heap.size + 1, 9, none⟩ = some (.string p.image) ∧ ((wd.alloc (.cells #[.string y.id, .int .i64 y.prio, .bool y.crit, .int .i64 y.q0, .int .i64 y.q1, .int .i64 y.q2, .int .i64 y.l0, .int .i64 y.l1, .int .i64 y.l2, .string y.image, .int .i64 y.size] 29)).alloc (.cells #[] 29)).cell? ⟨w.heap.size + 1, 10, none⟩ = some (.int .i64 p.size) ∧ ((wd.alloc (.cells #[.string y.id, .int .i64 y.prio, .bool y.crit, .int .i64 y.q0, .int .i64 y.q1, .int .i64 y.q2, .int .i64 y.l0, .int .i64 y.l1, .int .i64 y.l2, .string y.image, .int .i64 y.size] 29)).alloc (.cells #[] 29)).cell? ⟨b, off + j * 11, none⟩ = some (.string y.id) ∧ ((wd.alloc (.cells #[.string y.id, .int .i64 y.prio, .bool y.crit, .int .i64 y.q0, .int .i64 y.q1, .int .i64 y.q2, .int .i64 y.l0, .int .i64 y.l1, .int .i64 y.l2, .string y.image, .int .i64 y.size] 29)).alloc (.cells #[] 29)).cell? ⟨b, off + j * 11 + 1, none⟩ = some (.int .i64 y.prio) ∧ ((wd.alloc (.cells #[.string y.id, .int .i64 y.prio, .bool y.crit, .int .i64 y.q0, .int .i64 y.q1, .int .i64 y.q2, .int .i64 y.l0, .int .i64 y.l1, .int .i64 y.l2, .string y.image, .int .i64 y.size] 29)).alloc (.cells #[] 29)).cell? ⟨b, off + j * 11 + 2, none⟩ = some (.bool y.crit) ∧ ((wd.alloc (.cells #[.string y.id, .int .i64 y.prio, .bool y.crit, .int .i64 y.q0, .int .i64 y.q1, .int .i64 y.q2, .int .i64 y.l0, .int .i64 y.l1, .int .i64 y.l2, .string y.image, .int .i64 y.size] 29)).alloc (.cells #[] 29)).cell? ⟨b, off + j * 11 + 3, none⟩ = some (.int .i64 y.q0) ∧ ((wd.alloc (.cells #[.string y.id, .int .i64 y.prio, .bool y.crit, .int .i64 y.q0, .int .i64 y.q1, .int .i64 y.q2, .int .i64 y.l0, .int .i64 y.l1, .int .i64 y.l2, .string y.image, .int .i64 y.size] 29)).alloc (.cells #[] 29)).cell? ⟨b, off + j * 11 + 4, none⟩ = some (.int .i64 y.q1) ∧ ((wd.alloc (.cells #[.string y.id, .int .i64 y.prio, .bool y.crit, .int .i64 y.q0, .int .i64 y.q1, .int .i64 y.q2, .int .i64 y.l0, .int .i64 y.l1, .int .i64 y.l2, .string y.image, .int .i64 y.size] 29)).alloc (.cells #[] 29)).cell? ⟨b, off + j * 11 + 5, none⟩ = some (.int .i64 y.q2) ∧ ((wd.alloc (.cells #[.string y.id, .int .i64 y.prio, .bool y.crit, .int .i64 y.q0, .int .i64 y.q1, .int .i64 y.q2, .int .i64 y.l0, .int .i64 y.l1, .int .i64 y.l2, .string y.image, .int .i64 y.size] 29)).alloc (.cells #[] 29)).cell? ⟨b, off + j * 11 + 6, none⟩ = some (.int .i64 y.l0) ∧ ((wd.alloc (.cells #[.string y.id, .int .i64 y.prio, .bool y.crit, .int .i64 y.q0, .int .i64 y.q1, .int .i64 y.q2, .int .i64 y.l0, .int .i64 y.l1, .int .i64 y.l2, .string y.image, .int .i64 y.size] 29)).alloc (.cells #[] 29)).cell? ⟨b, off + j * 11 + 7, none⟩ = some (.int .i64 y.l1) ∧ ((wd.alloc (.cells #[.string y.id, .int .i64 y.prio, .bool y.crit, .int .i64 y.q0, .int .i64 y.q1, .int .i64 y.q2, .int .i64 y.l0, .int .i64 y.l1, .int .i64 y.l2, .string y.image, .int .i64 y.size] 29)).alloc (.cells #[] 29)).cell? ⟨b, off + j * 11 + 8, none⟩ = some (.int .i64 y.l2) ∧ ((wd.alloc (.cells #[.string y.id, .int .i64 y.prio, .bool y.crit, .int .i64 y.q0, .int .i64 y.q1, .int .i64 y.q2, .int .i64 y.l0, .int .i64 y.l1, .int .i64 y.l2, .string y.image, .int .i64 y.size] 29)).alloc (.cells #[] 29)).cell? ⟨b, off + j * 11 + 9, none⟩ = some (.string y.image) ∧ ((wd.alloc (.cells #[.string y.id, .int .i64 y.prio, .bool y.crit, .int .i64 y.q0, .int .i64 y.q1, .int .i64 y.q2, .int .i64 y.l0, .int .i64 y.l1, .int .i64 y.l2, .string y.image, .int .i64 y.size] 29)).alloc (.cells #[] 29)).cell? ⟨b, off + j * 11 + 10, none⟩ = some (.int .i64 y.size) from spCells HQ.out HRi.out HYJ.out)
                clear hK K
                simp only [Act.put, List.setIfInBounds_toArray, List.set_cons_zero, List.set_cons_succ]
                refine held_call 3 44 rfl rfl (by kernel_rfl) (by rfl) (fun K hK => ?_)
                refine wp_app ((wd.alloc (.cells #[.string y.id, .int .i64 y.prio, .bool y.crit, .int .i64 y.q0, .int .i64 y.q1, .int .i64 y.q2, .int .i64 y.l0, .int .i64 y.l1, .int .i64 y.l2, .string y.image, .int .i64 y.size] 29)).alloc (.cells #[] 29)) elemP encP (.tmp 42) (.tmp 43) rfl wd.heap.size _ [] (by simp [Act.eval]) HOW.out A8 S c8 (by simp [Act.eval]) (HSd.out.below (HB.out.mono (by simp))) (by simp; omega) (by simp; omega) HB.out.size ?_
                intro A5 c5 w5 ho hg _
                have hb5 := HOW.out.belowGrown HB.out hg (Nat.le_refl _) HB.out.size
                have HRW := Lib.hid (HRW.out.grownN hg (by simp [Value.ownBlock]))
                have how : Own w5 wd.heap.size 29 encP (.slice A5 (S).length c5) S := by simpa using ho
                have HOW := Lib.hid how
                have HB := Lib.hid hb5
                clear ho how hg hb5
                have HQ := Lib.hid (HQd.out.below HB.out)
                have HRi := Lib.hid (HRd.out.below HB.out)
                simp only [List.length_nil, Nat.zero_add]
                refine hK _ _ (spCells HQ.out HRi.out HYJ.out) ?_
                have hHeld := (show w5.cell? ⟨w.heap.size, 0, none⟩ = some (.int .i64 room.a) ∧ w5.cell? ⟨w.heap.size, 1, none⟩ = some (.int .i64 room.b) ∧ w5.cell? ⟨w.heap.size, 2, none⟩ = some (.int .i64 room.c) ∧ w5.cell? ⟨w.heap.size + 1, 0, none⟩ = some (.string p.id) ∧ w5.cell? ⟨w.heap.size + 1, 1, none⟩ = some (.int .i64 p.prio) ∧ w5.cell? ⟨w.heap.size + 1, 2, none⟩ = some (.bool p.crit) ∧ w5.cell? ⟨w.heap.size + 1, 3, none⟩ = some (.int .i64 p.q0) ∧ w5.cell? ⟨w.heap.size + 1, 4, none⟩ = some (.int .i64 p.q1) ∧ w5.cell? ⟨w.heap.size + 1, 5, none⟩ = some (.int .i64 p.q2) ∧ w5.cell? ⟨w.heap.size + 1, 6, none⟩ = some (.int .i64 p.l0) ∧ w5.cell? ⟨w.heap.size + 1, 7, none⟩ = some (.int .i64 p.l1) ∧ w5.cell? ⟨w.heap.size + 1, 8, none⟩ = some (.int .i64 p.l2) ∧ w5.cell? ⟨w.heap.size + 1, 9, none⟩ = some (.string p.image) ∧ w5.cell? ⟨w.heap.size + 1, 10, none⟩ = some (.int .i64 p.size) ∧ w5.cell? ⟨b, off + j * 11, none⟩ = some (.string y.id) ∧ w5.cell? ⟨b, off + j * 11 + 1, none⟩ = some (.int .i64 y.prio) ∧ w5.cell? ⟨b, off + j * 11 + 2, none⟩ = some (.bool y.crit) ∧ w5.cell? ⟨b, off + j * 11 + 3, none⟩ = some (.int .i64 y.q0) ∧ w5.cell? ⟨b, off + j * 11 + 4, none⟩ = some (.int .i64 y.q1) ∧ w5.cell? ⟨b, off + j * 11 + 5, none⟩ = some (.int .i64 y.q2) ∧ w5.cell? ⟨b, off + j * 11 + 6, none⟩ = some (.int .i64 y.l0) ∧ w5.cell? ⟨b, off + j * 11 + 7, none⟩ = some (.int .i64 y.l1) ∧ w5.cell? ⟨b, off + j * 11 + 8, none⟩ = some (.int .i64 y.l2) ∧ w5.cell? ⟨b, off + j * 11 + 9, none⟩ = some (.string y.image) ∧ w5.cell? ⟨b, off + j * 11 + 10, none⟩ = some (.int .i64 y.size) from spCells HQ.out HRi.out HYJ.out)
                clear hK K
                simp only [Act.put, List.setIfInBounds_toArray, List.set_cons_zero, List.set_cons_succ]
                refine held_call 9 50 rfl rfl (by kernel_rfl) (by rfl) (fun K hK => ?_)
                refine wp_app (w5) elemP encP (.tmp 44) (.tmp 49) rfl wd.heap.size _ S (by simp [Act.eval]) HOW.out _ [y] 1 (by simp [Act.eval]) HRW.out (by simp; omega) (by simp; omega) HB.out.size ?_
                intro A7 c7 w7 ho hg _
                have hb7 := HOW.out.belowGrown HB.out hg (Nat.le_refl _) HB.out.size
                have HOW := Lib.hid ho
                have HB := Lib.hid hb7
                clear ho hg hb7
                have HQ := Lib.hid (HQd.out.below HB.out)
                have HRi := Lib.hid (HRd.out.below HB.out)
                refine hK _ _ (spCells HQ.out HRi.out HYJ.out) ?_
                have hHeld := (show w7.cell? ⟨w.heap.size, 0, none⟩ = some (.int .i64 room.a) ∧ w7.cell? ⟨w.heap.size, 1, none⟩ = some (.int .i64 room.b) ∧ w7.cell? ⟨w.heap.size, 2, none⟩ = some (.int .i64 room.c) ∧ w7.cell? ⟨w.heap.size + 1, 0, none⟩ = some (.string p.id) ∧ w7.cell? ⟨w.heap.size + 1, 1, none⟩ = some (.int .i64 p.prio) ∧ w7.cell? ⟨w.heap.size + 1, 2, none⟩ = some (.bool p.crit) ∧ w7.cell? ⟨w.heap.size + 1, 3, none⟩ = some (.int .i64 p.q0) ∧ w7.cell? ⟨w.heap.size + 1, 4, none⟩ = some (.int .i64 p.q1) ∧ w7.cell? ⟨w.heap.size + 1, 5, none⟩ = some (.int .i64 p.q2) ∧ w7.cell? ⟨w.heap.size + 1, 6, none⟩ = some (.int .i64 p.l0) ∧ w7.cell? ⟨w.heap.size + 1, 7, none⟩ = some (.int .i64 p.l1) ∧ w7.cell? ⟨w.heap.size + 1, 8, none⟩ = some (.int .i64 p.l2) ∧ w7.cell? ⟨w.heap.size + 1, 9, none⟩ = some (.string p.image) ∧ w7.cell? ⟨w.heap.size + 1, 10, none⟩ = some (.int .i64 p.size) ∧ w7.cell? ⟨b, off + j * 11, none⟩ = some (.string y.id) ∧ w7.cell? ⟨b, off + j * 11 + 1, none⟩ = some (.int .i64 y.prio) ∧ w7.cell? ⟨b, off + j * 11 + 2, none⟩ = some (.bool y.crit) ∧ w7.cell? ⟨b, off + j * 11 + 3, none⟩ = some (.int .i64 y.q0) ∧ w7.cell? ⟨b, off + j * 11 + 4, none⟩ = some (.int .i64 y.q1) ∧ w7.cell? ⟨b, off + j * 11 + 5, none⟩ = some (.int .i64 y.q2) ∧ w7.cell? ⟨b, off + j * 11 + 6, none⟩ = some (.int .i64 y.l0) ∧ w7.cell? ⟨b, off + j * 11 + 7, none⟩ = some (.int .i64 y.l1) ∧ w7.cell? ⟨b, off + j * 11 + 8, none⟩ = some (.int .i64 y.l2) ∧ w7.cell? ⟨b, off + j * 11 + 9, none⟩ = some (.string y.image) ∧ w7.cell? ⟨b, off + j * 11 + 10, none⟩ = some (.int .i64 y.size) from spCells HQ.out HRi.out HYJ.out)
                clear hK K
                simp only [Act.put, List.setIfInBounds_toArray, List.set_cons_zero, List.set_cons_succ]
                refine held_call 10 51 rfl rfl (by kernel_rfl) (by rfl) (fun K hK => ?_)
                go_simp
                have HO7 := Lib.hid (show Rds w7 encP A7 (S ++ [y]) from HOW.out.toRds)
                go_at_call 33; with_reducible refine (refFitsN (show S.length + 1 = (S ++ [y]).length by simp) HV.out HO7.out HWSY.out (by simp; omega)).mono ?_; rintro e w9 ⟨rfl, hb⟩
                have HB := Lib.hid (below_rV HB.out hb)
                have HQ := Lib.hid (HQd.out.below HB.out)
                have HRi := Lib.hid (HRd.out.below HB.out)
                clear hb
                refine hK _ _ (spCells HQ.out HRi.out HYJ.out) ?_
                have hHeld := (show w9.cell? ⟨w.heap.size, 0, none⟩ = some (.int .i64 room.a) ∧ w9.cell? ⟨w.heap.size, 1, none⟩ = some (.int .i64 room.b) ∧ w9.cell? ⟨w.heap.size, 2, none⟩ = some (.int .i64 room.c) ∧ w9.cell? ⟨w.heap.size + 1, 0, none⟩ = some (.string p.id) ∧ w9.cell? ⟨w.heap.size + 1, 1, none⟩ = some (.int .i64 p.prio) ∧ w9.cell? ⟨w.heap.size + 1, 2, none⟩ = some (.bool p.crit) ∧ w9.cell? ⟨w.heap.size + 1, 3, none⟩ = some (.int .i64 p.q0) ∧ w9.cell? ⟨w.heap.size + 1, 4, none⟩ = some (.int .i64 p.q1) ∧ w9.cell? ⟨w.heap.size + 1, 5, none⟩ = some (.int .i64 p.q2) ∧ w9.cell? ⟨w.heap.size + 1, 6, none⟩ = some (.int .i64 p.l0) ∧ w9.cell? ⟨w.heap.size + 1, 7, none⟩ = some (.int .i64 p.l1) ∧ w9.cell? ⟨w.heap.size + 1, 8, none⟩ = some (.int .i64 p.l2) ∧ w9.cell? ⟨w.heap.size + 1, 9, none⟩ = some (.string p.image) ∧ w9.cell? ⟨w.heap.size + 1, 10, none⟩ = some (.int .i64 p.size) ∧ w9.cell? ⟨b, off + j * 11, none⟩ = some (.string y.id) ∧ w9.cell? ⟨b, off + j * 11 + 1, none⟩ = some (.int .i64 y.prio) ∧ w9.cell? ⟨b, off + j * 11 + 2, none⟩ = some (.bool y.crit) ∧ w9.cell? ⟨b, off + j * 11 + 3, none⟩ = some (.int .i64 y.q0) ∧ w9.cell? ⟨b, off + j * 11 + 4, none⟩ = some (.int .i64 y.q1) ∧ w9.cell? ⟨b, off + j * 11 + 5, none⟩ = some (.int .i64 y.q2) ∧ w9.cell? ⟨b, off + j * 11 + 6, none⟩ = some (.int .i64 y.l0) ∧ w9.cell? ⟨b, off + j * 11 + 7, none⟩ = some (.int .i64 y.l1) ∧ w9.cell? ⟨b, off + j * 11 + 8, none⟩ = some (.int .i64 y.l2) ∧ w9.cell? ⟨b, off + j * 11 + 9, none⟩ = some (.string y.image) ∧ w9.cell? ⟨b, off + j * 11 + 10, none⟩ = some (.int .i64 y.size) from spCells HQ.out HRi.out HYJ.out)
                clear hK K
                simp only [Act.put, List.setIfInBounds_toArray, List.set_cons_zero, List.set_cons_succ]
                refine wpAnyH_done (by kernel_rfl) ?_ _
                clear hHeld
                go_wp2_with fail
                go_meet
                exact ⟨rfl, below_rV HBr.out HB.out⟩
            case rest =>
              obtain ⟨rfl, hb1⟩ := hcut
              rename World => W4
              have HL := Lib.hid (HL.out.below hb1)
              have HQ := Lib.hid (HQ0.out.below HL.out.bel)
              have HRi := Lib.hid (HR0.out.below HL.out.bel)
              have HS := Lib.hid HL.out.s.toRds
              clear hb1 HBr
              cases v
              · have hy0 := (HRi.out.pdAt (Below.refl _ _) HYJ.out).1
                have cp := HQ.out.pb.cell
                go_wp2_with fail
                refine (put_any Os y.id A10 c10 _ HL.out.o.toRds (by omega) HWY.out.os).mono ?_; rintro e W6 ⟨O', A6, c6, rfl, hop, hos, ho6, hb⟩
                have HPO := Lib.hid (And.intro hop hos)
                have HL : Hid (Lug W0 S ((T ++ [y]).map Pd.id) O' (.slice A8 S.length c8) (.slice A9' (T.length + 1) k9) (.slice A6 O'.length c6) W6) :=
                  ⟨HL.out.s.below hb (Nat.le_refl _), HL.out.t.below hb (Nat.le_refl _), ho6.mono HL.out.bel.size, Apart.later HL.out.t ho6, HL.out.bel.trans (hb.mono HL.out.bel.size)⟩
                have HQ := Lib.hid (HQ0.out.below HL.out.bel)
                have HRi := Lib.hid (HR0.out.below HL.out.bel)
                clear hop hos ho6 hb hy0 cp
                have cp := HQ.out.pb.cell
                go_wp2_with fail
                refine (nextN (p := p) (asked := (T ++ [y]).map Pd.id) (by simp) HRi.out HL.out.t.toRds (by omega) (by simp; omega)).mono ?_; rintro e W7 ⟨z', rfl, hbest, hb⟩
                have HWN := Lib.hid (HWY.out.go HK2.out HV.out HPO.out.1 HPO.out.2 hbest)
                have HL := Lib.hid (HL.out.below hb)
                clear hbest hb cp
                go_wp2_with fail
                go_roundw
                case rel => exact ⟨T ++ [y], R', S, O', z', A8, c8, A9', k9, A6, c6, rfl, by simp, rfl, rfl, HWN.out, by rw [List.length_append]; exact HL.out⟩
                case measure => simp [sliceLen]; omega
              · go_wp2_with fail
                have hBr : Below W4.heap.size W4 W4.drew := (Below.refl _ _).drew
                have HBr := Lib.hid hBr
                clear hBr
                go_cut [8] (fun st W => ∃ A6 c6, st = .slice A6 (S ++ [y]).length c6 ∧ Own W W4.heap.size 29 encP (.slice A6 (S ++ [y]).length c6) (S ++ [y]) ∧ Below W4.heap.size W4 W)
                case first =>
                  have HQd := Lib.hid HQ.out.drew
                  have HRd := Lib.hid HRi.out.drew
                  have HSd := Lib.hid HS.out.drew
                  refine wp_region_held_drew (S := (fun w' => w'.cell? ⟨w.heap.size, 0, none⟩ = some (.int .i64 room.a) ∧ w'.cell? ⟨w.heap.size, 1, none⟩ = some (.int .i64 room.b) ∧ w'.cell? ⟨w.heap.size, 2, none⟩ = some (.int .i64 room.c) ∧ w'.cell? ⟨w.heap.size + 1, 0, none⟩ = some (.string p.id) ∧ w'.cell? ⟨w.heap.size + 1, 1, none⟩ = some (.int .i64 p.prio) ∧ w'.cell? ⟨w.heap.size + 1, 2, none⟩ = some (.bool p.crit) ∧ w'.cell? ⟨w.heap.size + 1, 3, none⟩ = some (.int .i64 p.q0) ∧ w'.cell? ⟨w.heap.size + 1, 4, none⟩ = some (.int .i64 p.q1) ∧ w'.cell? ⟨w.heap.size + 1, 5, none⟩ = some (.int .i64 p.q2) ∧ w'.cell? ⟨w.heap.size + 1, 6, none⟩ = some (.int .i64 p.l0) ∧ w'.cell? ⟨w.heap.size + 1, 7, none⟩ = some (.int .i64 p.l1) ∧ w'.cell? ⟨w.heap.size + 1, 8, none⟩ = some (.int .i64 p.l2) ∧ w'.cell? ⟨w.heap.size + 1, 9, none⟩ = some (.string p.image) ∧ w'.cell? ⟨w.heap.size + 1, 10, none⟩ = some (.int .i64 p.size) ∧ w'.cell? ⟨b, off + j * 11, none⟩ = some (.string y.id) ∧ w'.cell? ⟨b, off + j * 11 + 1, none⟩ = some (.int .i64 y.prio) ∧ w'.cell? ⟨b, off + j * 11 + 2, none⟩ = some (.bool y.crit) ∧ w'.cell? ⟨b, off + j * 11 + 3, none⟩ = some (.int .i64 y.q0) ∧ w'.cell? ⟨b, off + j * 11 + 4, none⟩ = some (.int .i64 y.q1) ∧ w'.cell? ⟨b, off + j * 11 + 5, none⟩ = some (.int .i64 y.q2) ∧ w'.cell? ⟨b, off + j * 11 + 6, none⟩ = some (.int .i64 y.l0) ∧ w'.cell? ⟨b, off + j * 11 + 7, none⟩ = some (.int .i64 y.l1) ∧ w'.cell? ⟨b, off + j * 11 + 8, none⟩ = some (.int .i64 y.l2) ∧ w'.cell? ⟨b, off + j * 11 + 9, none⟩ = some (.string y.image) ∧ w'.cell? ⟨b, off + j * 11 + 10, none⟩ = some (.int .i64 y.size))) (by kernel_rfl) (spCells HQd.out HRd.out HYJ.out) (fun hHeld => ?_)
                  generalize W4.drew = wd at *
                  have hb0 : Below wd.heap.size wd wd := Below.refl _ _
                  have HB := Lib.hid hb0
                  clear hb0
                  have HQ := HQd
                  have HRi := HRd
                  refine held_take 1 53 (.slice A8 S.length c8) rfl rfl (by kernel_rfl) (by kernel_rfl) (by kernel_rfl) (fun _ _ _ h => h) (by rfl) (by intro w' hSw; (try dsimp only at hSw); go_simp; (try (with_reducible rfl))) (by assumption) ?_
                  simp only [Act.put, List.setIfInBounds_toArray, List.set_cons_zero, List.set_cons_succ]
                  refine held_take 3 55 (.slice (some ⟨b, off, none⟩) l.length cl) rfl rfl (by kernel_rfl) (by kernel_rfl) (by kernel_rfl) (fun _ _ _ h => h) (by rfl) (by intro w' hSw; (try dsimp only at hSw); go_simp; (try (with_reducible rfl))) (by assumption) ?_
                  simp only [Act.put, List.setIfInBounds_toArray, List.set_cons_zero, List.set_cons_succ]
                  refine held_take 4 56 (.int .i64 j) rfl rfl (by kernel_rfl) (by kernel_rfl) (by kernel_rfl) (fun _ _ _ h => h) (by rfl) (by intro w' hSw; (try dsimp only at hSw); go_simp; (try (with_reducible rfl))) (by assumption) ?_
                  simp only [Act.put, List.setIfInBounds_toArray, List.set_cons_zero, List.set_cons_succ]
                  refine held_take 5 57 (.pointer (some ⟨b, off + j * 11, none⟩)) rfl rfl (by kernel_rfl) (by kernel_rfl) (by kernel_rfl) (fun _ _ _ h => h) (by rfl) (by intro w' hSw; (try dsimp only at hSw); go_simp; (try (with_reducible rfl))) (by assumption) ?_
                  simp only [Act.put, List.setIfInBounds_toArray, List.set_cons_zero, List.set_cons_succ]
                  refine held_take 6 58 (.agg #[.string y.id, .int .i64 y.prio, .bool y.crit, .int .i64 y.q0, .int .i64 y.q1, .int .i64 y.q2, .int .i64 y.l0, .int .i64 y.l1, .int .i64 y.l2, .string y.image, .int .i64 y.size]) rfl rfl (by kernel_rfl) (by kernel_rfl) (by kernel_rfl) (fun _ _ _ h => h) (by rfl) (by intro w' hSw; (try dsimp only at hSw); go_simp; (try (with_reducible rfl))) (by assumption) ?_
                  simp only [Act.put, List.setIfInBounds_toArray, List.set_cons_zero, List.set_cons_succ]
                  refine held_twoD 0 7 52 59 rfl rfl rfl rfl (by kernel_rfl) (by rfl) (by rfl) (fun K hK => ?_) (fun K hK => ?_)
                  · go_simp
                    have how := Own.made (wd) wd.heap.size 29 encP [] #[] rfl HB.out.size (by simp)
                    have HOW := Lib.hid how
                    clear how
                    have HB := Lib.hid (HB.out.alloc HB.out.size (.cells #[] 29))
                    have HQ := Lib.hid (HQd.out.below HB.out)
                    have HRi := Lib.hid (HRd.out.below HB.out)
                    refine hK _ _ (spCells HQ.out HRi.out HYJ.out) ?_
                    have hHeld := (show ((wd).alloc (.cells #[] 29)).cell? ⟨w.heap.size, 0, none⟩ = some (.int .i64 room.a) ∧ ((wd).alloc (.cells #[] 29)).cell? ⟨w.heap.size, 1, none⟩ = some (.int .i64 room.b) ∧ ((wd).alloc (.cells #[] 29)).cell? ⟨w.heap.size, 2, none⟩ = some (.int .i64 room.c) ∧ ((wd).alloc (.cells #[] 29)).cell? ⟨w.heap.size + 1, 0, none⟩ = some (.string p.id) ∧ ((wd).alloc (.cells #[] 29)).cell? ⟨w.heap.size + 1, 1, none⟩ = some (.int .i64 p.prio) ∧ ((wd).alloc (.cells #[] 29)).cell? ⟨w.heap.size + 1, 2, none⟩ = some (.bool p.crit) ∧ ((wd).alloc (.cells #[] 29)).cell? ⟨w.heap.size + 1, 3, none⟩ = some (.int .i64 p.q0) ∧ ((wd).alloc (.cells #[] 29)).cell? ⟨w.heap.size + 1, 4, none⟩ = some (.int .i64 p.q1) ∧ ((wd).alloc (.cells #[] 29)).cell? ⟨w.heap.size + 1, 5, none⟩ = some (.int .i64 p.q2) ∧ ((wd).alloc (.cells #[] 29)).cell? ⟨w.heap.size + 1, 6, none⟩ = some (.int .i64 p.l0) ∧ ((wd).alloc (.cells #[] 29)).cell? ⟨w.heap.size + 1, 7, none⟩ = some (.int .i64 p.l1) ∧ ((wd).alloc (.cells #[] 29)).cell? ⟨w.heap.size + 1, 8, none⟩ = some (.int .i64 p.l2) ∧ ((wd).alloc (.cells #[] 29)).cell? ⟨w.heap.size + 1, 9, none⟩ = some (.string p.image) ∧ ((wd).alloc (.cells #[] 29)).cell? ⟨w.heap.size + 1, 10, none⟩ = some (.int .i64 p.size) ∧ ((wd).alloc (.cells #[] 29)).cell? ⟨b, off + j * 11, none⟩ = some (.string y.id) ∧ ((wd).alloc (.cells #[] 29)).cell? ⟨b, off + j * 11 + 1, none⟩ = some (.int .i64 y.prio) ∧ ((wd).alloc (.cells #[] 29)).cell? ⟨b, off + j * 11 + 2, none⟩ = some (.bool y.crit) ∧ ((wd).alloc (.cells #[] 29)).cell? ⟨b, off + j * 11 + 3, none⟩ = some (.int .i64 y.q0) ∧ ((wd).alloc (.cells #[] 29)).cell? ⟨b, off + j * 11 + 4, none⟩ = some (.int .i64 y.q1) ∧ ((wd).alloc (.cells #[] 29)).cell? ⟨b, off + j * 11 + 5, none⟩ = some (.int .i64 y.q2) ∧ ((wd).alloc (.cells #[] 29)).cell? ⟨b, off + j * 11 + 6, none⟩ = some (.int .i64 y.l0) ∧ ((wd).alloc (.cells #[] 29)).cell? ⟨b, off + j * 11 + 7, none⟩ = some (.int .i64 y.l1) ∧ ((wd).alloc (.cells #[] 29)).cell? ⟨b, off + j * 11 + 8, none⟩ = some (.int .i64 y.l2) ∧ ((wd).alloc (.cells #[] 29)).cell? ⟨b, off + j * 11 + 9, none⟩ = some (.string y.image) ∧ ((wd).alloc (.cells #[] 29)).cell? ⟨b, off + j * 11 + 10, none⟩ = some (.int .i64 y.size) from spCells HQ.out HRi.out HYJ.out)
                    clear hK K
                    simp only [Act.put, List.setIfInBounds_toArray, List.set_cons_zero, List.set_cons_succ]
                    refine held_twoD 2 7 54 59 rfl rfl rfl rfl (by kernel_rfl) (by rfl) (by rfl) (fun K hK => ?_) (fun K hK => ?_)
                    · refine wp_app (wd.alloc (.cells #[] 29)) elemP encP (.tmp 52) (.tmp 53) rfl wd.heap.size _ [] (by simp [Act.eval]) HOW.out A8 S c8 (by simp [Act.eval]) (HSd.out.below (HB.out.mono (by simp))) (by simp; omega) (by simp; omega) HB.out.size ?_
                      intro A5 c5 w5 ho hg _
                      have hb5 := HOW.out.belowGrown HB.out hg (Nat.le_refl _) HB.out.size
                      have how : Own w5 wd.heap.size 29 encP (.slice A5 (S).length c5) S := by simpa using ho
                      have HOW := Lib.hid how
                      have HB := Lib.hid hb5
                      clear ho how hg hb5
                      have HQ := Lib.hid (HQd.out.below HB.out)
                      have HRi := Lib.hid (HRd.out.below HB.out)
                      simp only [List.length_nil, Nat.zero_add]
                      refine hK _ _ (spCells HQ.out HRi.out HYJ.out) ?_
                      have hHeld := (show w5.cell? ⟨w.heap.size, 0, none⟩ = some (.int .i64 room.a) ∧ w5.cell? ⟨w.heap.size, 1, none⟩ = some (.int .i64 room.b) ∧ w5.cell? ⟨w.heap.size, 2, none⟩ = some (.int .i64 room.c) ∧ w5.cell? ⟨w.heap.size + 1, 0, none⟩ = some (.string p.id) ∧ w5.cell? ⟨w.heap.size + 1, 1, none⟩ = some (.int .i64 p.prio) ∧ w5.cell? ⟨w.heap.size + 1, 2, none⟩ = some (.bool p.crit) ∧ w5.cell? ⟨w.heap.size + 1, 3, none⟩ = some (.int .i64 p.q0) ∧ w5.cell? ⟨w.heap.size + 1, 4, none⟩ = some (.int .i64 p.q1) ∧ w5.cell? ⟨w.heap.size + 1, 5, none⟩ = some (.int .i64 p.q2) ∧ w5.cell? ⟨w.heap.size + 1, 6, none⟩ = some (.int .i64 p.l0) ∧ w5.cell? ⟨w.heap.size + 1, 7, none⟩ = some (.int .i64 p.l1) ∧ w5.cell? ⟨w.heap.size + 1, 8, none⟩ = some (.int .i64 p.l2) ∧ w5.cell? ⟨w.heap.size + 1, 9, none⟩ = some (.string p.image) ∧ w5.cell? ⟨w.heap.size + 1, 10, none⟩ = some (.int .i64 p.size) ∧ w5.cell? ⟨b, off + j * 11, none⟩ = some (.string y.id) ∧ w5.cell? ⟨b, off + j * 11 + 1, none⟩ = some (.int .i64 y.prio) ∧ w5.cell? ⟨b, off + j * 11 + 2, none⟩ = some (.bool y.crit) ∧ w5.cell? ⟨b, off + j * 11 + 3, none⟩ = some (.int .i64 y.q0) ∧ w5.cell? ⟨b, off + j * 11 + 4, none⟩ = some (.int .i64 y.q1) ∧ w5.cell? ⟨b, off + j * 11 + 5, none⟩ = some (.int .i64 y.q2) ∧ w5.cell? ⟨b, off + j * 11 + 6, none⟩ = some (.int .i64 y.l0) ∧ w5.cell? ⟨b, off + j * 11 + 7, none⟩ = some (.int .i64 y.l1) ∧ w5.cell? ⟨b, off + j * 11 + 8, none⟩ = some (.int .i64 y.l2) ∧ w5.cell? ⟨b, off + j * 11 + 9, none⟩ = some (.string y.image) ∧ w5.cell? ⟨b, off + j * 11 + 10, none⟩ = some (.int .i64 y.size) from spCells HQ.out HRi.out HYJ.out)
                      clear hK K
                      simp only [Act.put, List.setIfInBounds_toArray, List.set_cons_zero, List.set_cons_succ]
                      refine held_call 7 59 rfl rfl (by kernel_rfl) (by rfl) (fun K hK => ?_)
                      go_simp
                      have hrw := Rds.made (w5) encP [y] 29 #[.string y.id, .int .i64 y.prio, .bool y.crit, .int .i64 y.q0, .int .i64 y.q1, .int .i64 y.q2, .int .i64 y.l0, .int .i64 y.l1, .int .i64 y.l2, .string y.image, .int .i64 y.size] (0, 0) rfl
                      have HOW := Lib.hid (HOW.out.alloc (.cells #[.string y.id, .int .i64 y.prio, .bool y.crit, .int .i64 y.q0, .int .i64 y.q1, .int .i64 y.q2, .int .i64 y.l0, .int .i64 y.l1, .int .i64 y.l2, .string y.image, .int .i64 y.size] 29))
                      have HRW := Lib.hid hrw
                      clear hrw
                      have HB := Lib.hid (HB.out.alloc HB.out.size (.cells #[.string y.id, .int .i64 y.prio, .bool y.crit, .int .i64 y.q0, .int .i64 y.q1, .int .i64 y.q2, .int .i64 y.l0, .int .i64 y.l1, .int .i64 y.l2, .string y.image, .int .i64 y.size] 29))
                      have HQ := Lib.hid (HQd.out.below HB.out)
                      have HRi := Lib.hid (HRd.out.below HB.out)
                      refine hK _ _ (spCells HQ.out HRi.out HYJ.out) ?_
                      have hHeld := (show ((w5).alloc (.cells #[.string y.id, .int .i64 y.prio, .bool y.crit, .int .i64 y.q0, .int .i64 y.q1, .int .i64 y.q2, .int .i64 y.l0, .int .i64 y.l1, .int .i64 y.l2, .string y.image, .int .i64 y.size] 29)).cell? ⟨w.heap.size, 0, none⟩ = some (.int .i64 room.a) ∧ ((w5).alloc (.cells #[.string y.id, .int .i64 y.prio, .bool y.crit, .int .i64 y.q0, .int .i64 y.q1, .int .i64 y.q2, .int .i64 y.l0, .int .i64 y.l1, .int .i64 y.l2, .string y.image, .int .i64 y.size] 29)).cell? ⟨w.heap.size, 1, none⟩ = some (.int .i64 room.b) ∧ ((w5).alloc (.cells #[.string y.id, .int .i64 y.prio, .bool y.crit, .int .i64 y.q0, .int .i64 y.q1, .int .i64 y.q2, .int .i64 y.l0, .int .i64 y.l1, .int .i64 y.l2, .string y.image, .int .i64 y.size] 29)).cell? ⟨w.heap.size, 2, none⟩ = some (.int .i64 room.c) ∧ ((w5).alloc (.cells #[.string y.id, .int .i64 y.prio, .bool y.crit, .int .i64 y.q0, .int .i64 y.q1, .int .i64 y.q2, .int .i64 y.l0, .int .i64 y.l1, .int .i64 y.l2, .string y.image, .int .i64 y.size] 29)).cell? ⟨w.heap.size + 1, 0, none⟩ = some (.string p.id) ∧ ((w5).alloc (.cells #[.string y.id, .int .i64 y.prio, .bool y.crit, .int .i64 y.q0, .int .i64 y.q1, .int .i64 y.q2, .int .i64 y.l0, .int .i64 y.l1, .int .i64 y.l2, .string y.image, .int .i64 y.size] 29)).cell? ⟨w.heap.size + 1, 1, none⟩ = some (.int .i64 p.prio) ∧ ((w5).alloc (.cells #[.string y.id, .int .i64 y.prio, .bool y.crit, .int .i64 y.q0, .int .i64 y.q1, .int .i64 y.q2, .int .i64 y.l0, .int .i64 y.l1, .int .i64 y.l2, .string y.image, .int .i64 y.size] 29)).cell? ⟨w.heap.size + 1, 2, none⟩ = some (.bool p.crit) ∧ ((w5).alloc (.cells #[.string y.id, .int .i64 y.prio, .bool y.crit, .int .i64 y.q0, .int .i64 y.q1, .int .i64 y.q2, .int .i64 y.l0, .int .i64 y.l1, .int .i64 y.l2, .string y.image, .int .i64 y.size] 29)).cell? ⟨w.heap.size + 1, 3, none⟩ = some (.int .i64 p.q0) ∧ ((w5).alloc (.cells #[.string y.id, .int .i64 y.prio, .bool y.crit, .int .i64 y.q0, .int .i64 y.q1, .int .i64 y.q2, .int .i64 y.l0, .int .i64 y.l1, .int .i64 y.l2, .string y.image, .int .i64 y.size] 29)).cell? ⟨w.heap.size + 1, 4, none⟩ = some (.int .i64 p.q1) ∧ ((w5).alloc (.cells #[.string y.id, .int .i64 y.prio, .bool y.crit, .int .i64 y.q0, .int .i64 y.q1, .int .i64 y.q2, .int .i64 y.l0, .int .i64 y.l1, .int .i64 y.l2, .string y.image, .int .i64 y.size] 29)).cell? ⟨w.heap.size + 1, 5, none⟩ = some (.int .i64 p.q2) ∧ ((w5).alloc (.cells #[.string y.id, .int .i64 y.prio, .bool y.crit, .int .i64 y.q0, .int .i64 y.q1, .int .i64 y.q2, .int .i64 y.l0, .int .i64 y.l1, .int .i64 y.l2, .string y.image, .int .i64 y.size] 29)).cell? ⟨w.heap.size + 1, 6, none⟩ = some (.int .i64 p.l0) ∧ ((w5).alloc (.cells #[.string y.id, .int .i64 y.prio, .bool y.crit, .int .i64 y.q0, .int .i64 y.q1, .int .i64 y.q2, .int .i64 y.l0, .int .i64 y.l1, .int .i64 y.l2, .string y.image, .int .i64 y.size] 29)).cell? ⟨w.heap.size + 1, 7, none⟩ = some (.int .i64 p.l1) ∧ ((w5).alloc (.cells #[.string y.id, .int .i64 y.prio, .bool y.crit, .int .i64 y.q0, .int .i64 y.q1, .int .i64 y.q2, .int .i64 y.l0, .int .i64 y.l1, .int .i64 y.l2, .string y.image, .int .i64 y.size] 29)).cell? ⟨w.heap.size + 1, 8, none⟩ = some (.int .i64 p.l2) ∧ ((w5).alloc (.cells #[.string y.id, .int .i64 y.prio, .bool y.crit, .int .i64 y.q0, .int .i64 y.q1, .int .i64 y.q2, .int .i64 y.l0, .int .i64 y.l1, .int .i64 y.l2, .string y.image, .int .i64 y.size] 29)).cell? ⟨w.heap.size + 1, 9, none⟩ = some (.string p.image) ∧ ((w5).alloc (.cells #[.string y.id, .int .i64 y.prio, .bool y.crit, .int .i64 y.q0, .int .i64 y.q1, .int .i64 y.q2, .int .i64 y.l0, .int .i64 y.l1, .int .i64 y.l2, .string y.image, .int .i64 y.size] 29)).cell? ⟨w.heap.size + 1, 10, none⟩ = some (.int .i64 p.size) ∧ ((w5).alloc (.cells #[.string y.id, .int .i64 y.prio, .bool y.crit, .int .i64 y.q0, .int .i64 y.q1, .int .i64 y.q2, .int .i64 y.l0, .int .i64 y.l1, .int .i64 y.l2, .string y.image, .int .i64 y.size] 29)).cell? ⟨b, off + j * 11, none⟩ = some (.string y.id) ∧ ((w5).alloc (.cells #[.string y.id, .int .i64 y.prio, .bool y.crit, .int .i64 y.q0, .int .i64 y.q1, .int .i64 y.q2, .int .i64 y.l0, .int .i64 y.l1, .int .i64 y.l2, .string y.image, .int .i64 y.size] 29)).cell? ⟨b, off + j * 11 + 1, none⟩ = some (.int .i64 y.prio) ∧ ((w5).alloc (.cells #[.string y.id, .int .i64 y.prio, .bool y.crit, .int .i64 y.q0, .int .i64 y.q1, .int .i64 y.q2, .int .i64 y.l0, .int .i64 y.l1, .int .i64 y.l2, .string y.image, .int .i64 y.size] 29)).cell? ⟨b, off + j * 11 + 2, none⟩ = some (.bool y.crit) ∧ ((w5).alloc (.cells #[.string y.id, .int .i64 y.prio, .bool y.crit, .int .i64 y.q0, .int .i64 y.q1, .int .i64 y.q2, .int .i64 y.l0, .int .i64 y.l1, .int .i64 y.l2, .string y.image, .int .i64 y.size] 29)).cell? ⟨b, off + j * 11 + 3, none⟩ = some (.int .i64 y.q0) ∧ ((w5).alloc (.cells #[.string y.id, .int .i64 y.prio, .bool y.crit, .int .i64 y.q0, .int .i64 y.q1, .int .i64 y.q2, .int .i64 y.l0, .int .i64 y.l1, .int .i64 y.l2, .string y.image, .int .i64 y.size] 29)).cell? ⟨b, off + j * 11 + 4, none⟩ = some (.int .i64 y.q1) ∧ ((w5).alloc (.cells #[.string y.id, .int .i64 y.prio, .bool y.crit, .int .i64 y.q0, .int .i64 y.q1, .int .i64 y.q2, .int .i64 y.l0, .int .i64 y.l1, .int .i64 y.l2, .string y.image, .int .i64 y.size] 29)).cell? ⟨b, off + j * 11 + 5, none⟩ = some (.int .i64 y.q2) ∧ ((w5).alloc (.cells #[.string y.id, .int .i64 y.prio, .bool y.crit, .int .i64 y.q0, .int .i64 y.q1, .int .i64 y.q2, .int .i64 y.l0, .int .i64 y.l1, .int .i64 y.l2, .string y.image, .int .i64 y.size] 29)).cell? ⟨b, off + j * 11 + 6, none⟩ = some (.int .i64 y.l0) ∧ ((w5).alloc (.cells #[.string y.id, .int .i64 y.prio, .bool y.crit, .int .i64 y.q0, .int .i64 y.q1, .int .i64 y.q2, .int .i64 y.l0, .int .i64 y.l1, .int .i64 y.l2, .string y.image, .int .i64 y.size] 29)).cell? ⟨b, off + j * 11 + 7, none⟩ = some (.int .i64 y.l1) ∧ ((w5).alloc (.cells #[.string y.id, .int .i64 y.prio, .bool y.crit, .int .i64 y.q0, .int .i64 y.q1, .int .i64 y.q2, .int .i64 y.l0, .int .i64 y.l1, .int .i64 y.l2, .string y.image, .int .i64 y.size] 29)).cell? ⟨b, off + j * 11 + 8, none⟩ = some (.int .i64 y.l2) ∧ ((w5).alloc (.cells #[.string y.id, .int .i64 y.prio, .bool y.crit, .int .i64 y.q0, .int .i64 y.q1, .int .i64 y.q2, .int .i64 y.l0, .int .i64 y.l1, .int .i64 y.l2, .string y.image, .int .i64 y.size] 29)).cell? ⟨b, off + j * 11 + 9, none⟩ = some (.string y.image) ∧ ((w5).alloc (.cells #[.string y.id, .int .i64 y.prio, .bool y.crit, .int .i64 y.q0, .int .i64 y.q1, .int .i64 y.q2, .int .i64 y.l0, .int .i64 y.l1, .int .i64 y.l2, .string y.image, .int .i64 y.size] 29)).cell? ⟨b, off + j * 11 + 10, none⟩ = some (.int .i64 y.size) from spCells HQ.out HRi.out HYJ.out)
                      clear hK K
                      simp only [Act.put, List.setIfInBounds_toArray, List.set_cons_zero, List.set_cons_succ]
                      refine held_call 8 60 rfl rfl (by kernel_rfl) (by rfl) (fun K hK => ?_)
                      refine wp_app (w5.alloc (.cells #[.string y.id, .int .i64 y.prio, .bool y.crit, .int .i64 y.q0, .int .i64 y.q1, .int .i64 y.q2, .int .i64 y.l0, .int .i64 y.l1, .int .i64 y.l2, .string y.image, .int .i64 y.size] 29)) elemP encP (.tmp 54) (.tmp 59) rfl wd.heap.size _ S (by simp [Act.eval]) HOW.out _ [y] 1 (by simp [Act.eval]) HRW.out (by simp; omega) (by simp; omega) HB.out.size ?_
                      intro A7 c7 w7 ho hg _
                      have hb7 := HOW.out.belowGrown HB.out hg (Nat.le_refl _) HB.out.size
                      have HOW := Lib.hid ho
                      have HB := Lib.hid hb7
                      clear ho hg hb7
                      have HQ := Lib.hid (HQd.out.below HB.out)
                      have HRi := Lib.hid (HRd.out.below HB.out)
                      refine hK _ _ (spCells HQ.out HRi.out HYJ.out) ?_
                      have hHeld := (show w7.cell? ⟨w.heap.size, 0, none⟩ = some (.int .i64 room.a) ∧ w7.cell? ⟨w.heap.size, 1, none⟩ = some (.int .i64 room.b) ∧ w7.cell? ⟨w.heap.size, 2, none⟩ = some (.int .i64 room.c) ∧ w7.cell? ⟨w.heap.size + 1, 0, none⟩ = some (.string p.id) ∧ w7.cell? ⟨w.heap.size + 1, 1, none⟩ = some (.int .i64 p.prio) ∧ w7.cell? ⟨w.heap.size + 1, 2, none⟩ = some (.bool p.crit) ∧ w7.cell? ⟨w.heap.size + 1, 3, none⟩ = some (.int .i64 p.q0) ∧ w7.cell? ⟨w.heap.size + 1, 4, none⟩ = some (.int .i64 p.q1) ∧ w7.cell? ⟨w.heap.size + 1, 5, none⟩ = some (.int .i64 p.q2) ∧ w7.cell? ⟨w.heap.size + 1, 6, none⟩ = some (.int .i64 p.l0) ∧ w7.cell? ⟨w.heap.size + 1, 7, none⟩ = some (.int .i64 p.l1) ∧ w7.cell? ⟨w.heap.size + 1, 8, none⟩ = some (.int .i64 p.l2) ∧ w7.cell? ⟨w.heap.size + 1, 9, none⟩ = some (.string p.image) ∧ w7.cell? ⟨w.heap.size + 1, 10, none⟩ = some (.int .i64 p.size) ∧ w7.cell? ⟨b, off + j * 11, none⟩ = some (.string y.id) ∧ w7.cell? ⟨b, off + j * 11 + 1, none⟩ = some (.int .i64 y.prio) ∧ w7.cell? ⟨b, off + j * 11 + 2, none⟩ = some (.bool y.crit) ∧ w7.cell? ⟨b, off + j * 11 + 3, none⟩ = some (.int .i64 y.q0) ∧ w7.cell? ⟨b, off + j * 11 + 4, none⟩ = some (.int .i64 y.q1) ∧ w7.cell? ⟨b, off + j * 11 + 5, none⟩ = some (.int .i64 y.q2) ∧ w7.cell? ⟨b, off + j * 11 + 6, none⟩ = some (.int .i64 y.l0) ∧ w7.cell? ⟨b, off + j * 11 + 7, none⟩ = some (.int .i64 y.l1) ∧ w7.cell? ⟨b, off + j * 11 + 8, none⟩ = some (.int .i64 y.l2) ∧ w7.cell? ⟨b, off + j * 11 + 9, none⟩ = some (.string y.image) ∧ w7.cell? ⟨b, off + j * 11 + 10, none⟩ = some (.int .i64 y.size) from spCells HQ.out HRi.out HYJ.out)
                      clear hK K
                      simp only [Act.put, List.setIfInBounds_toArray, List.set_cons_zero, List.set_cons_succ]
                      refine held_take 9 8 (.slice A7 (S.length + [y].length) c7) rfl rfl (by kernel_rfl) (by kernel_rfl) (by kernel_rfl) (fun _ _ _ h => h) (by rfl) (by intro w' hSw; (try dsimp only at hSw); go_simp; (try (with_reducible rfl))) (by assumption) ?_
                      simp only [Act.put, List.setIfInBounds_toArray, List.set_cons_zero, List.set_cons_succ]
                      refine wpAnyH_done (by kernel_rfl) ?_ _
                      clear hHeld
                      go_wp2_with fail
                      go_meet
                      exact ⟨A7, c7, by simp, by have h := HOW.out.mono HBr.out.size; simpa [List.length_append] using h, below_rV HBr.out HB.out⟩
                    · go_simp
                      have hrw := Rds.made (wd.alloc (.cells #[] 29)) encP [y] 29 #[.string y.id, .int .i64 y.prio, .bool y.crit, .int .i64 y.q0, .int .i64 y.q1, .int .i64 y.q2, .int .i64 y.l0, .int .i64 y.l1, .int .i64 y.l2, .string y.image, .int .i64 y.size] (0, 0) rfl
                      rw [show (wd.alloc (.cells #[] 29)).heap.size = wd.heap.size + 1 from by simp] at hrw
                      have HOW := Lib.hid (HOW.out.alloc (.cells #[.string y.id, .int .i64 y.prio, .bool y.crit, .int .i64 y.q0, .int .i64 y.q1, .int .i64 y.q2, .int .i64 y.l0, .int .i64 y.l1, .int .i64 y.l2, .string y.image, .int .i64 y.size] 29))
                      have HRW := Lib.hid hrw
                      clear hrw
                      have HB := Lib.hid (HB.out.alloc HB.out.size (.cells #[.string y.id, .int .i64 y.prio, .bool y.crit, .int .i64 y.q0, .int .i64 y.q1, .int .i64 y.q2, .int .i64 y.l0, .int .i64 y.l1, .int .i64 y.l2, .string y.image, .int .i64 y.size] 29))
                      have HQ := Lib.hid (HQd.out.below HB.out)
                      have HRi := Lib.hid (HRd.out.below HB.out)
                      refine hK _ _ (spCells HQ.out HRi.out HYJ.out) ?_
                      have hHeld := (show ((wd.alloc (.cells #[] 29)).alloc (.cells #[.string y.id, .int .i64 y.prio, .bool y.crit, .int .i64 y.q0, .int .i64 y.q1, .int .i64 y.q2, .int .i64 y.l0, .int .i64 y.l1, .int .i64 y.l2, .string y.image, .int .i64 y.size] 29)).cell? ⟨w.heap.size, 0, none⟩ = some (.int .i64 room.a) ∧ ((wd.alloc (.cells #[] 29)).alloc (.cells #[.string y.id, .int .i64 y.prio, .bool y.crit, .int .i64 y.q0, .int .i64 y.q1, .int .i64 y.q2, .int .i64 y.l0, .int .i64 y.l1, .int .i64 y.l2, .string y.image, .int .i64 y.size] 29)).cell? ⟨w.heap.size, 1, none⟩ = some (.int .i64 room.b) ∧ ((wd.alloc (.cells #[] 29)).alloc (.cells #[.string y.id, .int .i64 y.prio, .bool y.crit, .int .i64 y.q0, .int .i64 y.q1, .int .i64 y.q2, .int .i64 y.l0, .int .i64 y.l1, .int .i64 y.l2, .string y.image, .int .i64 y.size] 29)).cell? ⟨w.heap.size, 2, none⟩ = some (.int .i64 room.c) ∧ ((wd.alloc (.cells #[] 29)).alloc (.cells #[.string y.id, .int .i64 y.prio, .bool y.crit, .int .i64 y.q0, .int .i64 y.q1, .int .i64 y.q2, .int .i64 y.l0, .int .i64 y.l1, .int .i64 y.l2, .string y.image, .int .i64 y.size] 29)).cell? ⟨w.heap.size + 1, 0, none⟩ = some (.string p.id) ∧ ((wd.alloc (.cells #[] 29)).alloc (.cells #[.string y.id, .int .i64 y.prio, .bool y.crit, .int .i64 y.q0, .int .i64 y.q1, .int .i64 y.q2, .int .i64 y.l0, .int .i64 y.l1, .int .i64 y.l2, .string y.image, .int .i64 y.size] 29)).cell? ⟨w.heap.size + 1, 1, none⟩ = some (.int .i64 p.prio) ∧ ((wd.alloc (.cells #[] 29)).alloc (.cells #[.string y.id, .int .i64 y.prio, .bool y.crit, .int .i64 y.q0, .int .i64 y.q1, .int .i64 y.q2, .int .i64 y.l0, .int .i64 y.l1, .int .i64 y.l2, .string y.image, .int .i64 y.size] 29)).cell? ⟨w.heap.size + 1, 2, none⟩ = some (.bool p.crit) ∧ ((wd.alloc (.cells #[] 29)).alloc (.cells #[.string y.id, .int .i64 y.prio, .bool y.crit, .int .i64 y.q0, .int .i64 y.q1, .int .i64 y.q2, .int .i64 y.l0, .int .i64 y.l1, .int .i64 y.l2, .string y.image, .int .i64 y.size] 29)).cell? ⟨w.heap.size + 1, 3, none⟩ = some (.int .i64 p.q0) ∧ ((wd.alloc (.cells #[] 29)).alloc (.cells #[.string y.id, .int .i64 y.prio, .bool y.crit, .int .i64 y.q0, .int .i64 y.q1, .int .i64 y.q2, .int .i64 y.l0, .int .i64 y.l1, .int .i64 y.l2, .string y.image, .int .i64 y.size] 29)).cell? ⟨w.heap.size + 1, 4, none⟩ = some (.int .i64 p.q1) ∧ ((wd.alloc (.cells #[] 29)).alloc (.cells #[.string y.id, .int .i64 y.prio, .bool y.crit, .int .i64 y.q0, .int .i64 y.q1, .int .i64 y.q2, .int .i64 y.l0, .int .i64 y.l1, .int .i64 y.l2, .string y.image, .int .i64 y.size] 29)).cell? ⟨w.heap.size + 1, 5, none⟩ = some (.int .i64 p.q2) ∧ ((wd.alloc (.cells #[] 29)).alloc (.cells #[.string y.id, .int .i64 y.prio, .bool y.crit, .int .i64 y.q0, .int .i64 y.q1, .int .i64 y.q2, .int .i64 y.l0, .int .i64 y.l1, .int .i64 y.l2, .string y.image, .int .i64 y.size] 29)).cell? ⟨w.heap.size + 1, 6, none⟩ = some (.int .i64 p.l0) ∧ ((wd.alloc (.cells #[] 29)).alloc (.cells #[.string y.id, .int .i64 y.prio, .bool y.crit, .int .i64 y.q0, .int .i64 y.q1, .int .i64 y.q2, .int .i64 y.l0, .int .i64 y.l1, .int .i64 y.l2, .string y.image, .int .i64 y.size] 29)).cell? ⟨w.heap.size + 1, 7, none⟩ = some (.int .i64 p.l1) ∧ ((wd.alloc (.cells #[] 29)).alloc (.cells #[.string y.id, .int .i64 y.prio, .bool y.crit, .int .i64 y.q0, .int .i64 y.q1, .int .i64 y.q2, .int .i64 y.l0, .int .i64 y.l1, .int .i64 y.l2, .string y.image, .int .i64 y.size] 29)).cell? ⟨w.heap.size + 1, 8, none⟩ = some (.int .i64 p.l2) ∧ ((wd.alloc (.cells #[] 29)).alloc (.cells #[.string y.id, .int .i64 y.prio, .bool y.crit, .int .i64 y.q0, .int .i64 y.q1, .int .i64 y.q2, .int .i64 y.l0, .int .i64 y.l1, .int .i64 y.l2, .string y.image, .int .i64 y.size] 29)).cell? ⟨w.heap.size + 1, 9, none⟩ = some (.string p.image) ∧ ((wd.alloc (.cells #[] 29)).alloc (.cells #[.string y.id, .int .i64 y.prio, .bool y.crit, .int .i64 y.q0, .int .i64 y.q1, .int .i64 y.q2, .int .i64 y.l0, .int .i64 y.l1, .int .i64 y.l2, .string y.image, .int .i64 y.size] 29)).cell? ⟨w.heap.size + 1, 10, none⟩ = some (.int .i64 p.size) ∧ ((wd.alloc (.cells #[] 29)).alloc (.cells #[.string y.id, .int .i64 y.prio, .bool y.crit, .int .i64 y.q0, .int .i64 y.q1, .int .i64 y.q2, .int .i64 y.l0, .int .i64 y.l1, .int .i64 y.l2, .string y.image, .int .i64 y.size] 29)).cell? ⟨b, off + j * 11, none⟩ = some (.string y.id) ∧ ((wd.alloc (.cells #[] 29)).alloc (.cells #[.string y.id, .int .i64 y.prio, .bool y.crit, .int .i64 y.q0, .int .i64 y.q1, .int .i64 y.q2, .int .i64 y.l0, .int .i64 y.l1, .int .i64 y.l2, .string y.image, .int .i64 y.size] 29)).cell? ⟨b, off + j * 11 + 1, none⟩ = some (.int .i64 y.prio) ∧ ((wd.alloc (.cells #[] 29)).alloc (.cells #[.string y.id, .int .i64 y.prio, .bool y.crit, .int .i64 y.q0, .int .i64 y.q1, .int .i64 y.q2, .int .i64 y.l0, .int .i64 y.l1, .int .i64 y.l2, .string y.image, .int .i64 y.size] 29)).cell? ⟨b, off + j * 11 + 2, none⟩ = some (.bool y.crit) ∧ ((wd.alloc (.cells #[] 29)).alloc (.cells #[.string y.id, .int .i64 y.prio, .bool y.crit, .int .i64 y.q0, .int .i64 y.q1, .int .i64 y.q2, .int .i64 y.l0, .int .i64 y.l1, .int .i64 y.l2, .string y.image, .int .i64 y.size] 29)).cell? ⟨b, off + j * 11 + 3, none⟩ = some (.int .i64 y.q0) ∧ ((wd.alloc (.cells #[] 29)).alloc (.cells #[.string y.id, .int .i64 y.prio, .bool y.crit, .int .i64 y.q0, .int .i64 y.q1, .int .i64 y.q2, .int .i64 y.l0, .int .i64 y.l1, .int .i64 y.l2, .string y.image, .int .i64 y.size] 29)).cell? ⟨b, off + j * 11 + 4, none⟩ = some (.int .i64 y.q1) ∧ ((wd.alloc (.cells #[] 29)).alloc (.cells #[.string y.id, .int .i64 y.prio, .bool y.crit, .int .i64 y.q0, .int .i64 y.q1, .int .i64 y.q2, .int .i64 y.l0, .int .i64 y.l1, .int .i64 y.l2, .string y.image, .int .i64 y.size] 29)).cell? ⟨b, off + j * 11 + 5, none⟩ = some (.int .i64 y.q2) ∧ ((wd.alloc (.cells #[] 29)).alloc (.cells #[.string y.id, .int .i64 y.prio, .bool y.crit, .int .i64 y.q0, .int .i64 y.q1, .int .i64 y.q2, .int .i64 y.l0, .int .i64 y.l1, .int .i64 y.l2, .string y.image, .int .i64 y.size] 29)).cell? ⟨b, off + j * 11 + 6, none⟩ = some (.int .i64 y.l0) ∧ ((wd.alloc (.cells #[] 29)).alloc (.cells #[.string y.id, .int .i64 y.prio, .bool y.crit, .int .i64 y.q0, .int .i64 y.q1, .int .i64 y.q2, .int .i64 y.l0, .int .i64 y.l1, .int .i64 y.l2, .string y.image, .int .i64 y.size] 29)).cell? ⟨b, off + j * 11 + 7, none⟩ = some (.int .i64 y.l1) ∧ ((wd.alloc (.cells #[] 29)).alloc (.cells #[.string y.id, .int .i64 y.prio, .bool y.crit, .int .i64 y.q0, .int .i64 y.q1, .int .i64 y.q2, .int .i64 y.l0, .int .i64 y.l1, .int .i64 y.l2, .string y.image, .int .i64 y.size] 29)).cell? ⟨b, off + j * 11 + 8, none⟩ = some (.int .i64 y.l2) ∧ ((wd.alloc (.cells #[] 29)).alloc (.cells #[.string y.id, .int .i64 y.prio, .bool y.crit, .int .i64 y.q0, .int .i64 y.q1, .int .i64 y.q2, .int .i64 y.l0, .int .i64 y.l1, .int .i64 y.l2, .string y.image, .int .i64 y.size] 29)).cell? ⟨b, off + j * 11 + 9, none⟩ = some (.string y.image) ∧ ((wd.alloc (.cells #[] 29)).alloc (.cells #[.string y.id, .int .i64 y.prio, .bool y.crit, .int .i64 y.q0, .int .i64 y.q1, .int .i64 y.q2, .int .i64 y.l0, .int .i64 y.l1, .int .i64 y.l2, .string y.image, .int .i64 y.size] 29)).cell? ⟨b, off + j * 11 + 10, none⟩ = some (.int .i64 y.size) from spCells HQ.out HRi.out HYJ.out)
                      clear hK K
                      simp only [Act.put, List.setIfInBounds_toArray, List.set_cons_zero, List.set_cons_succ]
                      refine held_call 2 54 rfl rfl (by kernel_rfl) (by rfl) (fun K hK => ?_)
                      refine wp_app ((wd.alloc (.cells #[] 29)).alloc (.cells #[.string y.id, .int .i64 y.prio, .bool y.crit, .int .i64 y.q0, .int .i64 y.q1, .int .i64 y.q2, .int .i64 y.l0, .int .i64 y.l1, .int .i64 y.l2, .string y.image, .int .i64 y.size] 29)) elemP encP (.tmp 52) (.tmp 53) rfl wd.heap.size _ [] (by simp [Act.eval]) HOW.out A8 S c8 (by simp [Act.eval]) (HSd.out.below (HB.out.mono (by simp))) (by simp; omega) (by simp; omega) HB.out.size ?_
                      intro A5 c5 w5 ho hg _
                      have hb5 := HOW.out.belowGrown HB.out hg (Nat.le_refl _) HB.out.size
                      have HRW := Lib.hid (HRW.out.grownN hg (by simp [Value.ownBlock]))
                      have how : Own w5 wd.heap.size 29 encP (.slice A5 (S).length c5) S := by simpa using ho
                      have HOW := Lib.hid how
                      have HB := Lib.hid hb5
                      clear ho how hg hb5
                      have HQ := Lib.hid (HQd.out.below HB.out)
                      have HRi := Lib.hid (HRd.out.below HB.out)
                      simp only [List.length_nil, Nat.zero_add]
                      refine hK _ _ (spCells HQ.out HRi.out HYJ.out) ?_
                      have hHeld := (show w5.cell? ⟨w.heap.size, 0, none⟩ = some (.int .i64 room.a) ∧ w5.cell? ⟨w.heap.size, 1, none⟩ = some (.int .i64 room.b) ∧ w5.cell? ⟨w.heap.size, 2, none⟩ = some (.int .i64 room.c) ∧ w5.cell? ⟨w.heap.size + 1, 0, none⟩ = some (.string p.id) ∧ w5.cell? ⟨w.heap.size + 1, 1, none⟩ = some (.int .i64 p.prio) ∧ w5.cell? ⟨w.heap.size + 1, 2, none⟩ = some (.bool p.crit) ∧ w5.cell? ⟨w.heap.size + 1, 3, none⟩ = some (.int .i64 p.q0) ∧ w5.cell? ⟨w.heap.size + 1, 4, none⟩ = some (.int .i64 p.q1) ∧ w5.cell? ⟨w.heap.size + 1, 5, none⟩ = some (.int .i64 p.q2) ∧ w5.cell? ⟨w.heap.size + 1, 6, none⟩ = some (.int .i64 p.l0) ∧ w5.cell? ⟨w.heap.size + 1, 7, none⟩ = some (.int .i64 p.l1) ∧ w5.cell? ⟨w.heap.size + 1, 8, none⟩ = some (.int .i64 p.l2) ∧ w5.cell? ⟨w.heap.size + 1, 9, none⟩ = some (.string p.image) ∧ w5.cell? ⟨w.heap.size + 1, 10, none⟩ = some (.int .i64 p.size) ∧ w5.cell? ⟨b, off + j * 11, none⟩ = some (.string y.id) ∧ w5.cell? ⟨b, off + j * 11 + 1, none⟩ = some (.int .i64 y.prio) ∧ w5.cell? ⟨b, off + j * 11 + 2, none⟩ = some (.bool y.crit) ∧ w5.cell? ⟨b, off + j * 11 + 3, none⟩ = some (.int .i64 y.q0) ∧ w5.cell? ⟨b, off + j * 11 + 4, none⟩ = some (.int .i64 y.q1) ∧ w5.cell? ⟨b, off + j * 11 + 5, none⟩ = some (.int .i64 y.q2) ∧ w5.cell? ⟨b, off + j * 11 + 6, none⟩ = some (.int .i64 y.l0) ∧ w5.cell? ⟨b, off + j * 11 + 7, none⟩ = some (.int .i64 y.l1) ∧ w5.cell? ⟨b, off + j * 11 + 8, none⟩ = some (.int .i64 y.l2) ∧ w5.cell? ⟨b, off + j * 11 + 9, none⟩ = some (.string y.image) ∧ w5.cell? ⟨b, off + j * 11 + 10, none⟩ = some (.int .i64 y.size) from spCells HQ.out HRi.out HYJ.out)
                      clear hK K
                      simp only [Act.put, List.setIfInBounds_toArray, List.set_cons_zero, List.set_cons_succ]
                      refine held_call 8 60 rfl rfl (by kernel_rfl) (by rfl) (fun K hK => ?_)
                      refine wp_app (w5) elemP encP (.tmp 54) (.tmp 59) rfl wd.heap.size _ S (by simp [Act.eval]) HOW.out _ [y] 1 (by simp [Act.eval]) HRW.out (by simp; omega) (by simp; omega) HB.out.size ?_
                      intro A7 c7 w7 ho hg _
                      have hb7 := HOW.out.belowGrown HB.out hg (Nat.le_refl _) HB.out.size
                      have HOW := Lib.hid ho
                      have HB := Lib.hid hb7
                      clear ho hg hb7
                      have HQ := Lib.hid (HQd.out.below HB.out)
                      have HRi := Lib.hid (HRd.out.below HB.out)
                      refine hK _ _ (spCells HQ.out HRi.out HYJ.out) ?_
                      have hHeld := (show w7.cell? ⟨w.heap.size, 0, none⟩ = some (.int .i64 room.a) ∧ w7.cell? ⟨w.heap.size, 1, none⟩ = some (.int .i64 room.b) ∧ w7.cell? ⟨w.heap.size, 2, none⟩ = some (.int .i64 room.c) ∧ w7.cell? ⟨w.heap.size + 1, 0, none⟩ = some (.string p.id) ∧ w7.cell? ⟨w.heap.size + 1, 1, none⟩ = some (.int .i64 p.prio) ∧ w7.cell? ⟨w.heap.size + 1, 2, none⟩ = some (.bool p.crit) ∧ w7.cell? ⟨w.heap.size + 1, 3, none⟩ = some (.int .i64 p.q0) ∧ w7.cell? ⟨w.heap.size + 1, 4, none⟩ = some (.int .i64 p.q1) ∧ w7.cell? ⟨w.heap.size + 1, 5, none⟩ = some (.int .i64 p.q2) ∧ w7.cell? ⟨w.heap.size + 1, 6, none⟩ = some (.int .i64 p.l0) ∧ w7.cell? ⟨w.heap.size + 1, 7, none⟩ = some (.int .i64 p.l1) ∧ w7.cell? ⟨w.heap.size + 1, 8, none⟩ = some (.int .i64 p.l2) ∧ w7.cell? ⟨w.heap.size + 1, 9, none⟩ = some (.string p.image) ∧ w7.cell? ⟨w.heap.size + 1, 10, none⟩ = some (.int .i64 p.size) ∧ w7.cell? ⟨b, off + j * 11, none⟩ = some (.string y.id) ∧ w7.cell? ⟨b, off + j * 11 + 1, none⟩ = some (.int .i64 y.prio) ∧ w7.cell? ⟨b, off + j * 11 + 2, none⟩ = some (.bool y.crit) ∧ w7.cell? ⟨b, off + j * 11 + 3, none⟩ = some (.int .i64 y.q0) ∧ w7.cell? ⟨b, off + j * 11 + 4, none⟩ = some (.int .i64 y.q1) ∧ w7.cell? ⟨b, off + j * 11 + 5, none⟩ = some (.int .i64 y.q2) ∧ w7.cell? ⟨b, off + j * 11 + 6, none⟩ = some (.int .i64 y.l0) ∧ w7.cell? ⟨b, off + j * 11 + 7, none⟩ = some (.int .i64 y.l1) ∧ w7.cell? ⟨b, off + j * 11 + 8, none⟩ = some (.int .i64 y.l2) ∧ w7.cell? ⟨b, off + j * 11 + 9, none⟩ = some (.string y.image) ∧ w7.cell? ⟨b, off + j * 11 + 10, none⟩ = some (.int .i64 y.size) from spCells HQ.out HRi.out HYJ.out)
                      clear hK K
                      simp only [Act.put, List.setIfInBounds_toArray, List.set_cons_zero, List.set_cons_succ]
                      refine held_take 9 8 (.slice A7 (S.length + [y].length) c7) rfl rfl (by kernel_rfl) (by kernel_rfl) (by kernel_rfl) (fun _ _ _ h => h) (by rfl) (by intro w' hSw; (try dsimp only at hSw); go_simp; (try (with_reducible rfl))) (by assumption) ?_
                      simp only [Act.put, List.setIfInBounds_toArray, List.set_cons_zero, List.set_cons_succ]
                      refine wpAnyH_done (by kernel_rfl) ?_ _
                      clear hHeld
                      go_wp2_with fail
                      go_meet
                      exact ⟨A7, c7, by simp, by have h := HOW.out.mono HBr.out.size; simpa [List.length_append] using h, below_rV HBr.out HB.out⟩
                  · go_simp
                    have hrw := Rds.made (wd) encP [y] 29 #[.string y.id, .int .i64 y.prio, .bool y.crit, .int .i64 y.q0, .int .i64 y.q1, .int .i64 y.q2, .int .i64 y.l0, .int .i64 y.l1, .int .i64 y.l2, .string y.image, .int .i64 y.size] (0, 0) rfl
                    have HRW := Lib.hid hrw
                    clear hrw
                    have HB := Lib.hid (HB.out.alloc HB.out.size (.cells #[.string y.id, .int .i64 y.prio, .bool y.crit, .int .i64 y.q0, .int .i64 y.q1, .int .i64 y.q2, .int .i64 y.l0, .int .i64 y.l1, .int .i64 y.l2, .string y.image, .int .i64 y.size] 29))
                    have HQ := Lib.hid (HQd.out.below HB.out)
                    have HRi := Lib.hid (HRd.out.below HB.out)
                    refine hK _ _ (spCells HQ.out HRi.out HYJ.out) ?_
                    have hHeld := (show ((wd).alloc (.cells #[.string y.id, .int .i64 y.prio, .bool y.crit, .int .i64 y.q0, .int .i64 y.q1, .int .i64 y.q2, .int .i64 y.l0, .int .i64 y.l1, .int .i64 y.l2, .string y.image, .int .i64 y.size] 29)).cell? ⟨w.heap.size, 0, none⟩ = some (.int .i64 room.a) ∧ ((wd).alloc (.cells #[.string y.id, .int .i64 y.prio, .bool y.crit, .int .i64 y.q0, .int .i64 y.q1, .int .i64 y.q2, .int .i64 y.l0, .int .i64 y.l1, .int .i64 y.l2, .string y.image, .int .i64 y.size] 29)).cell? ⟨w.heap.size, 1, none⟩ = some (.int .i64 room.b) ∧ ((wd).alloc (.cells #[.string y.id, .int .i64 y.prio, .bool y.crit, .int .i64 y.q0, .int .i64 y.q1, .int .i64 y.q2, .int .i64 y.l0, .int .i64 y.l1, .int .i64 y.l2, .string y.image, .int .i64 y.size] 29)).cell? ⟨w.heap.size, 2, none⟩ = some (.int .i64 room.c) ∧ ((wd).alloc (.cells #[.string y.id, .int .i64 y.prio, .bool y.crit, .int .i64 y.q0, .int .i64 y.q1, .int .i64 y.q2, .int .i64 y.l0, .int .i64 y.l1, .int .i64 y.l2, .string y.image, .int .i64 y.size] 29)).cell? ⟨w.heap.size + 1, 0, none⟩ = some (.string p.id) ∧ ((wd).alloc (.cells #[.string y.id, .int .i64 y.prio, .bool y.crit, .int .i64 y.q0, .int .i64 y.q1, .int .i64 y.q2, .int .i64 y.l0, .int .i64 y.l1, .int .i64 y.l2, .string y.image, .int .i64 y.size] 29)).cell? ⟨w.heap.size + 1, 1, none⟩ = some (.int .i64 p.prio) ∧ ((wd).alloc (.cells #[.string y.id, .int .i64 y.prio, .bool y.crit, .int .i64 y.q0, .int .i64 y.q1, .int .i64 y.q2, .int .i64 y.l0, .int .i64 y.l1, .int .i64 y.l2, .string y.image, .int .i64 y.size] 29)).cell? ⟨w.heap.size + 1, 2, none⟩ = some (.bool p.crit) ∧ ((wd).alloc (.cells #[.string y.id, .int .i64 y.prio, .bool y.crit, .int .i64 y.q0, .int .i64 y.q1, .int .i64 y.q2, .int .i64 y.l0, .int .i64 y.l1, .int .i64 y.l2, .string y.image, .int .i64 y.size] 29)).cell? ⟨w.heap.size + 1, 3, none⟩ = some (.int .i64 p.q0) ∧ ((wd).alloc (.cells #[.string y.id, .int .i64 y.prio, .bool y.crit, .int .i64 y.q0, .int .i64 y.q1, .int .i64 y.q2, .int .i64 y.l0, .int .i64 y.l1, .int .i64 y.l2, .string y.image, .int .i64 y.size] 29)).cell? ⟨w.heap.size + 1, 4, none⟩ = some (.int .i64 p.q1) ∧ ((wd).alloc (.cells #[.string y.id, .int .i64 y.prio, .bool y.crit, .int .i64 y.q0, .int .i64 y.q1, .int .i64 y.q2, .int .i64 y.l0, .int .i64 y.l1, .int .i64 y.l2, .string y.image, .int .i64 y.size] 29)).cell? ⟨w.heap.size + 1, 5, none⟩ = some (.int .i64 p.q2) ∧ ((wd).alloc (.cells #[.string y.id, .int .i64 y.prio, .bool y.crit, .int .i64 y.q0, .int .i64 y.q1, .int .i64 y.q2, .int .i64 y.l0, .int .i64 y.l1, .int .i64 y.l2, .string y.image, .int .i64 y.size] 29)).cell? ⟨w.heap.size + 1, 6, none⟩ = some (.int .i64 p.l0) ∧ ((wd).alloc (.cells #[.string y.id, .int .i64 y.prio, .bool y.crit, .int .i64 y.q0, .int .i64 y.q1, .int .i64 y.q2, .int .i64 y.l0, .int .i64 y.l1, .int .i64 y.l2, .string y.image, .int .i64 y.size] 29)).cell? ⟨w.heap.size + 1, 7, none⟩ = some (.int .i64 p.l1) ∧ ((wd).alloc (.cells #[.string y.id, .int .i64 y.prio, .bool y.crit, .int .i64 y.q0, .int .i64 y.q1, .int .i64 y.q2, .int .i64 y.l0, .int .i64 y.l1, .int .i64 y.l2, .string y.image, .int .i64 y.size] 29)).cell? ⟨w.heap.size + 1, 8, none⟩ = some (.int .i64 p.l2) ∧ ((wd).alloc (.cells #[.string y.id, .int .i64 y.prio, .bool y.crit, .int .i64 y.q0, .int .i64 y.q1, .int .i64 y.q2, .int .i64 y.l0, .int .i64 y.l1, .int .i64 y.l2, .string y.image, .int .i64 y.size] 29)).cell? ⟨w.heap.size + 1, 9, none⟩ = some (.string p.image) ∧ ((wd).alloc (.cells #[.string y.id, .int .i64 y.prio, .bool y.crit, .int .i64 y.q0, .int .i64 y.q1, .int .i64 y.q2, .int .i64 y.l0, .int .i64 y.l1, .int .i64 y.l2, .string y.image, .int .i64 y.size] 29)).cell? ⟨w.heap.size + 1, 10, none⟩ = some (.int .i64 p.size) ∧ ((wd).alloc (.cells #[.string y.id, .int .i64 y.prio, .bool y.crit, .int .i64 y.q0, .int .i64 y.q1, .int .i64 y.q2, .int .i64 y.l0, .int .i64 y.l1, .int .i64 y.l2, .string y.image, .int .i64 y.size] 29)).cell? ⟨b, off + j * 11, none⟩ = some (.string y.id) ∧ ((wd).alloc (.cells #[.string y.id, .int .i64 y.prio, .bool y.crit, .int .i64 y.q0, .int .i64 y.q1, .int .i64 y.q2, .int .i64 y.l0, .int .i64 y.l1, .int .i64 y.l2, .string y.image, .int .i64 y.size] 29)).cell? ⟨b, off + j * 11 + 1, none⟩ = some (.int .i64 y.prio) ∧ ((wd).alloc (.cells #[.string y.id, .int .i64 y.prio, .bool y.crit, .int .i64 y.q0, .int .i64 y.q1, .int .i64 y.q2, .int .i64 y.l0, .int .i64 y.l1, .int .i64 y.l2, .string y.image, .int .i64 y.size] 29)).cell? ⟨b, off + j * 11 + 2, none⟩ = some (.bool y.crit) ∧ ((wd).alloc (.cells #[.string y.id, .int .i64 y.prio, .bool y.crit, .int .i64 y.q0, .int .i64 y.q1, .int .i64 y.q2, .int .i64 y.l0, .int .i64 y.l1, .int .i64 y.l2, .string y.image, .int .i64 y.size] 29)).cell? ⟨b, off + j * 11 + 3, none⟩ = some (.int .i64 y.q0) ∧ ((wd).alloc (.cells #[.string y.id, .int .i64 y.prio, .bool y.crit, .int .i64 y.q0, .int .i64 y.q1, .int .i64 y.q2, .int .i64 y.l0, .int .i64 y.l1, .int .i64 y.l2, .string y.image, .int .i64 y.size] 29)).cell? ⟨b, off + j * 11 + 4, none⟩ = some (.int .i64 y.q1) ∧ ((wd).alloc (.cells #[.string y.id, .int .i64 y.prio, .bool y.crit, .int .i64 y.q0, .int .i64 y.q1, .int .i64 y.q2, .int .i64 y.l0, .int .i64 y.l1, .int .i64 y.l2, .string y.image, .int .i64 y.size] 29)).cell? ⟨b, off + j * 11 + 5, none⟩ = some (.int .i64 y.q2) ∧ ((wd).alloc (.cells #[.string y.id, .int .i64 y.prio, .bool y.crit, .int .i64 y.q0, .int .i64 y.q1, .int .i64 y.q2, .int .i64 y.l0, .int .i64 y.l1, .int .i64 y.l2, .string y.image, .int .i64 y.size] 29)).cell? ⟨b, off + j * 11 + 6, none⟩ = some (.int .i64 y.l0) ∧ ((wd).alloc (.cells #[.string y.id, .int .i64 y.prio, .bool y.crit, .int .i64 y.q0, .int .i64 y.q1, .int .i64 y.q2, .int .i64 y.l0, .int .i64 y.l1, .int .i64 y.l2, .string y.image, .int .i64 y.size] 29)).cell? ⟨b, off + j * 11 + 7, none⟩ = some (.int .i64 y.l1) ∧ ((wd).alloc (.cells #[.string y.id, .int .i64 y.prio, .bool y.crit, .int .i64 y.q0, .int .i64 y.q1, .int .i64 y.q2, .int .i64 y.l0, .int .i64 y.l1, .int .i64 y.l2, .string y.image, .int .i64 y.size] 29)).cell? ⟨b, off + j * 11 + 8, none⟩ = some (.int .i64 y.l2) ∧ ((wd).alloc (.cells #[.string y.id, .int .i64 y.prio, .bool y.crit, .int .i64 y.q0, .int .i64 y.q1, .int .i64 y.q2, .int .i64 y.l0, .int .i64 y.l1, .int .i64 y.l2, .string y.image, .int .i64 y.size] 29)).cell? ⟨b, off + j * 11 + 9, none⟩ = some (.string y.image) ∧ ((wd).alloc (.cells #[.string y.id, .int .i64 y.prio, .bool y.crit, .int .i64 y.q0, .int .i64 y.q1, .int .i64 y.q2, .int .i64 y.l0, .int .i64 y.l1, .int .i64 y.l2, .string y.image, .int .i64 y.size] 29)).cell? ⟨b, off + j * 11 + 10, none⟩ = some (.int .i64 y.size) from spCells HQ.out HRi.out HYJ.out)
                    clear hK K
                    simp only [Act.put, List.setIfInBounds_toArray, List.set_cons_zero, List.set_cons_succ]
                    refine held_call 0 52 rfl rfl (by kernel_rfl) (by rfl) (fun K hK => ?_)
                    go_simp
                    have how := Own.made (wd.alloc (.cells #[.string y.id, .int .i64 y.prio, .bool y.crit, .int .i64 y.q0, .int .i64 y.q1, .int .i64 y.q2, .int .i64 y.l0, .int .i64 y.l1, .int .i64 y.l2, .string y.image, .int .i64 y.size] 29)) wd.heap.size 29 encP [] #[] rfl HB.out.size (by simp)
                    rw [show (wd.alloc (.cells #[.string y.id, .int .i64 y.prio, .bool y.crit, .int .i64 y.q0, .int .i64 y.q1, .int .i64 y.q2, .int .i64 y.l0, .int .i64 y.l1, .int .i64 y.l2, .string y.image, .int .i64 y.size] 29)).heap.size = wd.heap.size + 1 from by simp] at how
                    have HRW := Lib.hid (HRW.out.alloc (.cells #[] 29))
                    have HOW := Lib.hid how
                    clear how
                    have HB := Lib.hid (HB.out.alloc HB.out.size (.cells #[] 29))
                    have HQ := Lib.hid (HQd.out.below HB.out)
                    have HRi := Lib.hid (HRd.out.below HB.out)
                    refine hK _ _ (spCells HQ.out HRi.out HYJ.out) ?_
                    have hHeld := (show ((wd.alloc (.cells #[.string y.id, .int .i64 y.prio, .bool y.crit, .int .i64 y.q0, .int .i64 y.q1, .int .i64 y.q2, .int .i64 y.l0, .int .i64 y.l1, .int .i64 y.l2, .string y.image, .int .i64 y.size] 29)).alloc (.cells #[] 29)).cell? ⟨w.heap.size, 0, none⟩ = some (.int .i64 room.a) ∧ ((wd.alloc (.cells #[.string y.id, .int .i64 y.prio, .bool y.crit, .int .i64 y.q0, .int .i64 y.q1, .int .i64 y.q2, .int .i64 y.l0, .int .i64 y.l1, .int .i64 y.l2, .string y.image, .int .i64 y.size] 29)).alloc (.cells #[] 29)).cell? ⟨w.heap.size, 1, none⟩ = some (.int .i64 room.b) ∧ ((wd.alloc (.cells #[.string y.id, .int .i64 y.prio, .bool y.crit, .int .i64 y.q0, .int .i64 y.q1, .int .i64 y.q2, .int .i64 y.l0, .int .i64 y.l1, .int .i64 y.l2, .string y.image, .int .i64 y.size] 29)).alloc (.cells #[] 29)).cell? ⟨w.heap.size, 2, none⟩ = some (.int .i64 room.c) ∧ ((wd.alloc (.cells #[.string y.id, .int .i64 y.prio, .bool y.crit, .int .i64 y.q0, .int .i64 y.q1, .int .i64 y.q2, .int .i64 y.l0, .int .i64 y.l1, .int .i64 y.l2, .string y.image, .int .i64 y.size] 29)).alloc (.cells #[] 29)).cell? ⟨w.heap.size + 1, 0, none⟩ = some (.string p.id) ∧ ((wd.alloc (.cells #[.string y.id, .int .i64 y.prio, .bool y.crit, .int .i64 y.q0, .int .i64 y.q1, .int .i64 y.q2, .int .i64 y.l0, .int .i64 y.l1, .int .i64 y.l2, .string y.image, .int .i64 y.size] 29)).alloc (.cells #[] 29)).cell? ⟨w.heap.size + 1, 1, none⟩ = some (.int .i64 p.prio) ∧ ((wd.alloc (.cells #[.string y.id, .int .i64 y.prio, .bool y.crit, .int .i64 y.q0, .int .i64 y.q1, .int .i64 y.q2, .int .i64 y.l0, .int .i64 y.l1, .int .i64 y.l2, .string y.image, .int .i64 y.size] 29)).alloc (.cells #[] 29)).cell? ⟨w.heap.size + 1, 2, none⟩ = some (.bool p.crit) ∧ ((wd.alloc (.cells #[.string y.id, .int .i64 y.prio, .bool y.crit, .int .i64 y.q0, .int .i64 y.q1, .int .i64 y.q2, .int .i64 y.l0, .int .i64 y.l1, .int .i64 y.l2, .string y.image, .int .i64 y.size] 29)).alloc (.cells #[] 29)).cell? ⟨w.heap.size + 1, 3, none⟩ = some (.int .i64 p.q0) ∧ ((wd.alloc (.cells #[.string y.id, .int .i64 y.prio, .bool y.crit, .int .i64 y.q0, .int .i64 y.q1, .int .i64 y.q2, .int .i64 y.l0, .int .i64 y.l1, .int .i64 y.l2, .string y.image, .int .i64 y.size] 29)).alloc (.cells #[] 29)).cell? ⟨w.heap.size + 1, 4, none⟩ = some (.int .i64 p.q1) ∧ ((wd.alloc (.cells #[.string y.id, .int .i64 y.prio, .bool y.crit, .int .i64 y.q0, .int .i64 y.q1, .int .i64 y.q2, .int .i64 y.l0, .int .i64 y.l1, .int .i64 y.l2, .string y.image, .int .i64 y.size] 29)).alloc (.cells #[] 29)).cell? ⟨w.heap.size + 1, 5, none⟩ = some (.int .i64 p.q2) ∧ ((wd.alloc (.cells #[.string y.id, .int .i64 y.prio, .bool y.crit, .int .i64 y.q0, .int .i64 y.q1, .int .i64 y.q2, .int .i64 y.l0, .int .i64 y.l1, .int .i64 y.l2, .string y.image, .int .i64 y.size] 29)).alloc (.cells #[] 29)).cell? ⟨w.heap.size + 1, 6, none⟩ = some (.int .i64 p.l0) ∧ ((wd.alloc (.cells #[.string y.id, .int .i64 y.prio, .bool y.crit, .int .i64 y.q0, .int .i64 y.q1, .int .i64 y.q2, .int .i64 y.l0, .int .i64 y.l1, .int .i64 y.l2, .string y.image, .int .i64 y.size] 29)).alloc (.cells #[] 29)).cell? ⟨w.heap.size + 1, 7, none⟩ = some (.int .i64 p.l1) ∧ ((wd.alloc (.cells #[.string y.id, .int .i64 y.prio, .bool y.crit, .int .i64 y.q0, .int .i64 y.q1, .int .i64 y.q2, .int .i64 y.l0, .int .i64 y.l1, .int .i64 y.l2, .string y.image, .int .i64 y.size] 29)).alloc (.cells #[] 29)).cell? ⟨w.heap.size + 1, 8, none⟩ = some (.int .i64 p.l2) ∧ ((wd.alloc (.cells #[.string y.id, .int .i64 y.prio, .bool y.crit, .int .i64 y.q0, .int .i64 y.q1, .int .i64 y.q2, .int .i64 y.l0, .int .i64 y.l1, .int .i64 y.l2, .string y.image, .int .i64 y.size] 29)).alloc (.cells #[] 29)).cell? ⟨w.heap.size + 1, 9, none⟩ = some (.string p.image) ∧ ((wd.alloc (.cells #[.string y.id, .int .i64 y.prio, .bool y.crit, .int .i64 y.q0, .int .i64 y.q1, .int .i64 y.q2, .int .i64 y.l0, .int .i64 y.l1, .int .i64 y.l2, .string y.image, .int .i64 y.size] 29)).alloc (.cells #[] 29)).cell? ⟨w.heap.size + 1, 10, none⟩ = some (.int .i64 p.size) ∧ ((wd.alloc (.cells #[.string y.id, .int .i64 y.prio, .bool y.crit, .int .i64 y.q0, .int .i64 y.q1, .int .i64 y.q2, .int .i64 y.l0, .int .i64 y.l1, .int .i64 y.l2, .string y.image, .int .i64 y.size] 29)).alloc (.cells #[] 29)).cell? ⟨b, off + j * 11, none⟩ = some (.string y.id) ∧ ((wd.alloc (.cells #[.string y.id, .int .i64 y.prio, .bool y.crit, .int .i64 y.q0, .int .i64 y.q1, .int .i64 y.q2, .int .i64 y.l0, .int .i64 y.l1, .int .i64 y.l2, .string y.image, .int .i64 y.size] 29)).alloc (.cells #[] 29)).cell? ⟨b, off + j * 11 + 1, none⟩ = some (.int .i64 y.prio) ∧ ((wd.alloc (.cells #[.string y.id, .int .i64 y.prio, .bool y.crit, .int .i64 y.q0, .int .i64 y.q1, .int .i64 y.q2, .int .i64 y.l0, .int .i64 y.l1, .int .i64 y.l2, .string y.image, .int .i64 y.size] 29)).alloc (.cells #[] 29)).cell? ⟨b, off + j * 11 + 2, none⟩ = some (.bool y.crit) ∧ ((wd.alloc (.cells #[.string y.id, .int .i64 y.prio, .bool y.crit, .int .i64 y.q0, .int .i64 y.q1, .int .i64 y.q2, .int .i64 y.l0, .int .i64 y.l1, .int .i64 y.l2, .string y.image, .int .i64 y.size] 29)).alloc (.cells #[] 29)).cell? ⟨b, off + j * 11 + 3, none⟩ = some (.int .i64 y.q0) ∧ ((wd.alloc (.cells #[.string y.id, .int .i64 y.prio, .bool y.crit, .int .i64 y.q0, .int .i64 y.q1, .int .i64 y.q2, .int .i64 y.l0, .int .i64 y.l1, .int .i64 y.l2, .string y.image, .int .i64 y.size] 29)).alloc (.cells #[] 29)).cell? ⟨b, off + j * 11 + 4, none⟩ = some (.int .i64 y.q1) ∧ ((wd.alloc (.cells #[.string y.id, .int .i64 y.prio, .bool y.crit, .int .i64 y.q0, .int .i64 y.q1, .int .i64 y.q2, .int .i64 y.l0, .int .i64 y.l1, .int .i64 y.l2, .string y.image, .int .i64 y.size] 29)).alloc (.cells #[] 29)).cell? ⟨b, off + j * 11 + 5, none⟩ = some (.int .i64 y.q2) ∧ ((wd.alloc (.cells #[.string y.id, .int .i64 y.prio, .bool y.crit, .int .i64 y.q0, .int .i64 y.q1, .int .i64 y.q2, .int .i64 y.l0, .int .i64 y.l1, .int .i64 y.l2, .string y.image, .int .i64 y.size] 29)).alloc (.cells #[] 29)).cell? ⟨b, off + j * 11 + 6, none⟩ = some (.int .i64 y.l0) ∧ ((wd.alloc (.cells #[.string y.id, .int .i64 y.prio, .bool y.crit, .int .i64 y.q0, .int .i64 y.q1, .int .i64 y.q2, .int .i64 y.l0, .int .i64 y.l1, .int .i64 y.l2, .string y.image, .int .i64 y.size] 29)).alloc (.cells #[] 29)).cell? ⟨b, off + j * 11 + 7, none⟩ = some (.int .i64 y.l1) ∧ ((wd.alloc (.cells #[.string y.id, .int .i64 y.prio, .bool y.crit, .int .i64 y.q0, .int .i64 y.q1, .int .i64 y.q2, .int .i64 y.l0, .int .i64 y.l1, .int .i64 y.l2, .string y.image, .int .i64 y.size] 29)).alloc (.cells #[] 29)).cell? ⟨b, off + j * 11 + 8, none⟩ = some (.int .i64 y.l2) ∧ ((wd.alloc (.cells #[.string y.id, .int .i64 y.prio, .bool y.crit, .int .i64 y.q0, .int .i64 y.q1, .int .i64 y.q2, .int .i64 y.l0, .int .i64 y.l1, .int .i64 y.l2, .string y.image, .int .i64 y.size] 29)).alloc (.cells #[] 29)).cell? ⟨b, off + j * 11 + 9, none⟩ = some (.string y.image) ∧ ((wd.alloc (.cells #[.string y.id, .int .i64 y.prio, .bool y.crit, .int .i64 y.q0, .int .i64 y.q1, .int .i64 y.q2, .int .i64 y.l0, .int .i64 y.l1, .int .i64 y.l2, .string y.image, .int .i64 y.size] 29)).alloc (.cells #[] 29)).cell? ⟨b, off + j * 11 + 10, none⟩ = some (.int .i64 y.size) from spCells HQ.out HRi.out HYJ.out)
                    clear hK K
                    simp only [Act.put, List.setIfInBounds_toArray, List.set_cons_zero, List.set_cons_succ]
                    refine held_call 2 54 rfl rfl (by kernel_rfl) (by rfl) (fun K hK => ?_)
                    refine wp_app ((wd.alloc (.cells #[.string y.id, .int .i64 y.prio, .bool y.crit, .int .i64 y.q0, .int .i64 y.q1, .int .i64 y.q2, .int .i64 y.l0, .int .i64 y.l1, .int .i64 y.l2, .string y.image, .int .i64 y.size] 29)).alloc (.cells #[] 29)) elemP encP (.tmp 52) (.tmp 53) rfl wd.heap.size _ [] (by simp [Act.eval]) HOW.out A8 S c8 (by simp [Act.eval]) (HSd.out.below (HB.out.mono (by simp))) (by simp; omega) (by simp; omega) HB.out.size ?_
                    intro A5 c5 w5 ho hg _
                    have hb5 := HOW.out.belowGrown HB.out hg (Nat.le_refl _) HB.out.size
                    have HRW := Lib.hid (HRW.out.grownN hg (by simp [Value.ownBlock]))
                    have how : Own w5 wd.heap.size 29 encP (.slice A5 (S).length c5) S := by simpa using ho
                    have HOW := Lib.hid how
                    have HB := Lib.hid hb5
                    clear ho how hg hb5
                    have HQ := Lib.hid (HQd.out.below HB.out)
                    have HRi := Lib.hid (HRd.out.below HB.out)
                    simp only [List.length_nil, Nat.zero_add]
                    refine hK _ _ (spCells HQ.out HRi.out HYJ.out) ?_
                    have hHeld := (show w5.cell? ⟨w.heap.size, 0, none⟩ = some (.int .i64 room.a) ∧ w5.cell? ⟨w.heap.size, 1, none⟩ = some (.int .i64 room.b) ∧ w5.cell? ⟨w.heap.size, 2, none⟩ = some (.int .i64 room.c) ∧ w5.cell? ⟨w.heap.size + 1, 0, none⟩ = some (.string p.id) ∧ w5.cell? ⟨w.heap.size + 1, 1, none⟩ = some (.int .i64 p.prio) ∧ w5.cell? ⟨w.heap.size + 1, 2, none⟩ = some (.bool p.crit) ∧ w5.cell? ⟨w.heap.size + 1, 3, none⟩ = some (.int .i64 p.q0) ∧ w5.cell? ⟨w.heap.size + 1, 4, none⟩ = some (.int .i64 p.q1) ∧ w5.cell? ⟨w.heap.size + 1, 5, none⟩ = some (.int .i64 p.q2) ∧ w5.cell? ⟨w.heap.size + 1, 6, none⟩ = some (.int .i64 p.l0) ∧ w5.cell? ⟨w.heap.size + 1, 7, none⟩ = some (.int .i64 p.l1) ∧ w5.cell? ⟨w.heap.size + 1, 8, none⟩ = some (.int .i64 p.l2) ∧ w5.cell? ⟨w.heap.size + 1, 9, none⟩ = some (.string p.image) ∧ w5.cell? ⟨w.heap.size + 1, 10, none⟩ = some (.int .i64 p.size) ∧ w5.cell? ⟨b, off + j * 11, none⟩ = some (.string y.id) ∧ w5.cell? ⟨b, off + j * 11 + 1, none⟩ = some (.int .i64 y.prio) ∧ w5.cell? ⟨b, off + j * 11 + 2, none⟩ = some (.bool y.crit) ∧ w5.cell? ⟨b, off + j * 11 + 3, none⟩ = some (.int .i64 y.q0) ∧ w5.cell? ⟨b, off + j * 11 + 4, none⟩ = some (.int .i64 y.q1) ∧ w5.cell? ⟨b, off + j * 11 + 5, none⟩ = some (.int .i64 y.q2) ∧ w5.cell? ⟨b, off + j * 11 + 6, none⟩ = some (.int .i64 y.l0) ∧ w5.cell? ⟨b, off + j * 11 + 7, none⟩ = some (.int .i64 y.l1) ∧ w5.cell? ⟨b, off + j * 11 + 8, none⟩ = some (.int .i64 y.l2) ∧ w5.cell? ⟨b, off + j * 11 + 9, none⟩ = some (.string y.image) ∧ w5.cell? ⟨b, off + j * 11 + 10, none⟩ = some (.int .i64 y.size) from spCells HQ.out HRi.out HYJ.out)
                    clear hK K
                    simp only [Act.put, List.setIfInBounds_toArray, List.set_cons_zero, List.set_cons_succ]
                    refine held_call 8 60 rfl rfl (by kernel_rfl) (by rfl) (fun K hK => ?_)
                    refine wp_app (w5) elemP encP (.tmp 54) (.tmp 59) rfl wd.heap.size _ S (by simp [Act.eval]) HOW.out _ [y] 1 (by simp [Act.eval]) HRW.out (by simp; omega) (by simp; omega) HB.out.size ?_
                    intro A7 c7 w7 ho hg _
                    have hb7 := HOW.out.belowGrown HB.out hg (Nat.le_refl _) HB.out.size
                    have HOW := Lib.hid ho
                    have HB := Lib.hid hb7
                    clear ho hg hb7
                    have HQ := Lib.hid (HQd.out.below HB.out)
                    have HRi := Lib.hid (HRd.out.below HB.out)
                    refine hK _ _ (spCells HQ.out HRi.out HYJ.out) ?_
                    have hHeld := (show w7.cell? ⟨w.heap.size, 0, none⟩ = some (.int .i64 room.a) ∧ w7.cell? ⟨w.heap.size, 1, none⟩ = some (.int .i64 room.b) ∧ w7.cell? ⟨w.heap.size, 2, none⟩ = some (.int .i64 room.c) ∧ w7.cell? ⟨w.heap.size + 1, 0, none⟩ = some (.string p.id) ∧ w7.cell? ⟨w.heap.size + 1, 1, none⟩ = some (.int .i64 p.prio) ∧ w7.cell? ⟨w.heap.size + 1, 2, none⟩ = some (.bool p.crit) ∧ w7.cell? ⟨w.heap.size + 1, 3, none⟩ = some (.int .i64 p.q0) ∧ w7.cell? ⟨w.heap.size + 1, 4, none⟩ = some (.int .i64 p.q1) ∧ w7.cell? ⟨w.heap.size + 1, 5, none⟩ = some (.int .i64 p.q2) ∧ w7.cell? ⟨w.heap.size + 1, 6, none⟩ = some (.int .i64 p.l0) ∧ w7.cell? ⟨w.heap.size + 1, 7, none⟩ = some (.int .i64 p.l1) ∧ w7.cell? ⟨w.heap.size + 1, 8, none⟩ = some (.int .i64 p.l2) ∧ w7.cell? ⟨w.heap.size + 1, 9, none⟩ = some (.string p.image) ∧ w7.cell? ⟨w.heap.size + 1, 10, none⟩ = some (.int .i64 p.size) ∧ w7.cell? ⟨b, off + j * 11, none⟩ = some (.string y.id) ∧ w7.cell? ⟨b, off + j * 11 + 1, none⟩ = some (.int .i64 y.prio) ∧ w7.cell? ⟨b, off + j * 11 + 2, none⟩ = some (.bool y.crit) ∧ w7.cell? ⟨b, off + j * 11 + 3, none⟩ = some (.int .i64 y.q0) ∧ w7.cell? ⟨b, off + j * 11 + 4, none⟩ = some (.int .i64 y.q1) ∧ w7.cell? ⟨b, off + j * 11 + 5, none⟩ = some (.int .i64 y.q2) ∧ w7.cell? ⟨b, off + j * 11 + 6, none⟩ = some (.int .i64 y.l0) ∧ w7.cell? ⟨b, off + j * 11 + 7, none⟩ = some (.int .i64 y.l1) ∧ w7.cell? ⟨b, off + j * 11 + 8, none⟩ = some (.int .i64 y.l2) ∧ w7.cell? ⟨b, off + j * 11 + 9, none⟩ = some (.string y.image) ∧ w7.cell? ⟨b, off + j * 11 + 10, none⟩ = some (.int .i64 y.size) from spCells HQ.out HRi.out HYJ.out)
                    clear hK K
                    simp only [Act.put, List.setIfInBounds_toArray, List.set_cons_zero, List.set_cons_succ]
                    refine held_take 9 8 (.slice A7 (S.length + [y].length) c7) rfl rfl (by kernel_rfl) (by kernel_rfl) (by kernel_rfl) (fun _ _ _ h => h) (by rfl) (by intro w' hSw; (try dsimp only at hSw); go_simp; (try (with_reducible rfl))) (by assumption) ?_
                    simp only [Act.put, List.setIfInBounds_toArray, List.set_cons_zero, List.set_cons_succ]
                    refine wpAnyH_done (by kernel_rfl) ?_ _
                    clear hHeld
                    go_wp2_with fail
                    go_meet
                    exact ⟨A7, c7, by simp, by have h := HOW.out.mono HBr.out.size; simpa [List.length_append] using h, below_rV HBr.out HB.out⟩
                case rest =>
                  obtain ⟨A6, c6, rfl, ho6, hb6⟩ := hcut
                  rename World => W6
                  have HL : Hid (Lug W0 (S ++ [y]) ((T ++ [y]).map Pd.id) Os (.slice A6 (S ++ [y]).length c6) (.slice A9' (T.length + 1) k9) (.slice A10 Os.length c10) W6) :=
                    ⟨ho6.mono HL.out.bel.size, HL.out.t.below hb6 (Nat.le_refl _), HL.out.o.below hb6 (Nat.le_refl _), HL.out.ap, HL.out.bel.trans (hb6.mono HL.out.bel.size)⟩
                  have HQ := Lib.hid (HQ0.out.below HL.out.bel)
                  have HRi := Lib.hid (HR0.out.below HL.out.bel)
                  clear ho6 hb6 HBr
                  have cp := HQ.out.pb.cell
                  go_wp2_with fail
                  refine (nextN (p := p) (asked := (T ++ [y]).map Pd.id) (by simp) HRi.out HL.out.t.toRds (by omega) (by simp; omega)).mono ?_; rintro e W7 ⟨z', rfl, hbest, hb⟩
                  have HWN := Lib.hid (HWY.out.stay HK2.out HV.out hbest)
                  have HL := Lib.hid (HL.out.below hb)
                  clear hbest hb cp
                  go_wp2_with fail
                  go_roundw
                  case rel => exact ⟨T ++ [y], R', S ++ [y], Os, z', A6, c6, A9', k9, A10, c10, by simp, by simp, rfl, rfl, HWN.out, by (rw [show (T ++ [y]).length = T.length + 1 from by simp]; exact HL.out)⟩
                  case measure => simp [sliceLen]; omega
  · have HBT : Hid (bb = true ∧ O = []) := by
      have h3 := chooseD_none room K (stayD p l)
      have h4 : fitsB room (stayD p l ++ K) = true := by rw [fitsB_perm ((HK.out.1.append_left _).trans (stay_ask p l))]; exact HVA.out
      have h5 := fitsB_left h4
      have h6 : bb = true := by rw [← HFS.out]; exact h5
      refine ⟨h6, ?_⟩
      have h7 := (HO.out.1 h6).1
      rw [(h3 h5).2 h4, List.perm_nil] at h7
      exact h7
    obtain ⟨rfl, rfl⟩ := HBT.out
    have HQd := Lib.hid HQ.out.drew
    have HRd := Lib.hid HRi.out.drew
    refine wp_region_held_drew (S := (fun w' => w'.cell? ⟨w.heap.size, 0, none⟩ = some (.int .i64 room.a) ∧ w'.cell? ⟨w.heap.size, 1, none⟩ = some (.int .i64 room.b) ∧ w'.cell? ⟨w.heap.size, 2, none⟩ = some (.int .i64 room.c) ∧ w'.cell? ⟨w.heap.size + 1, 0, none⟩ = some (.string p.id) ∧ w'.cell? ⟨w.heap.size + 1, 1, none⟩ = some (.int .i64 p.prio) ∧ w'.cell? ⟨w.heap.size + 1, 2, none⟩ = some (.bool p.crit) ∧ w'.cell? ⟨w.heap.size + 1, 3, none⟩ = some (.int .i64 p.q0) ∧ w'.cell? ⟨w.heap.size + 1, 4, none⟩ = some (.int .i64 p.q1) ∧ w'.cell? ⟨w.heap.size + 1, 5, none⟩ = some (.int .i64 p.q2) ∧ w'.cell? ⟨w.heap.size + 1, 6, none⟩ = some (.int .i64 p.l0) ∧ w'.cell? ⟨w.heap.size + 1, 7, none⟩ = some (.int .i64 p.l1) ∧ w'.cell? ⟨w.heap.size + 1, 8, none⟩ = some (.int .i64 p.l2) ∧ w'.cell? ⟨w.heap.size + 1, 9, none⟩ = some (.string p.image) ∧ w'.cell? ⟨w.heap.size + 1, 10, none⟩ = some (.int .i64 p.size))) (by kernel_rfl) (rpCells HQd.out) (fun hHeld => ?_)
    generalize hwd : World.drew _ = wd at *
    clear hwd
    have hb0 : Below wd.heap.size wd wd := Below.refl _ _
    have HB := Lib.hid hb0
    clear hb0
    have HQ := HQd
    have HRi := HRd
    refine held_take 0 12 (.agg #[.int .i64 room.a, .int .i64 room.b, .int .i64 room.c]) rfl rfl (by kernel_rfl) (by kernel_rfl) (by kernel_rfl) (fun _ _ _ h => h) (by rfl) (by intro w' hSw; (try dsimp only at hSw); go_simp; (try (with_reducible rfl))) (by assumption) ?_
    simp only [Act.put, List.setIfInBounds_toArray, List.set_cons_zero, List.set_cons_succ]
    refine held_take 2 14 (.slice Al l.length cl) rfl rfl (by kernel_rfl) (by kernel_rfl) (by kernel_rfl) (fun _ _ _ h => h) (by rfl) (by intro w' hSw; (try dsimp only at hSw); go_simp; (try (with_reducible rfl))) (by assumption) ?_
    simp only [Act.put, List.setIfInBounds_toArray, List.set_cons_zero, List.set_cons_succ]
    refine held_take 4 16 (.agg #[.string p.id, .int .i64 p.prio, .bool p.crit, .int .i64 p.q0, .int .i64 p.q1, .int .i64 p.q2, .int .i64 p.l0, .int .i64 p.l1, .int .i64 p.l2, .string p.image, .int .i64 p.size]) rfl rfl (by kernel_rfl) (by kernel_rfl) (by kernel_rfl) (fun _ _ _ h => h) (by rfl) (by intro w' hSw; (try dsimp only at hSw); go_simp; (try (with_reducible rfl))) (by assumption) ?_
    simp only [Act.put, List.setIfInBounds_toArray, List.set_cons_zero, List.set_cons_succ]
    refine held_twoD 1 5 13 17 rfl rfl rfl rfl (by kernel_rfl) (by rfl) (by rfl) (fun K hK => ?_) (fun K hK => ?_)
    · go_simp
      have how := Own.made (wd) wd.heap.size 29 encP [] #[] rfl HB.out.size (by simp)
      have HOW := Lib.hid how
      clear how
      have HB := Lib.hid (HB.out.alloc HB.out.size (.cells #[] 29))
      have HQ := Lib.hid (HQd.out.below HB.out)
      have HRi := Lib.hid (HRd.out.below HB.out)
      refine hK _ _ (rpCells HQ.out) ?_
      have hHeld := (show ((wd).alloc (.cells #[] 29)).cell? ⟨w.heap.size, 0, none⟩ = some (.int .i64 room.a) ∧ ((wd).alloc (.cells #[] 29)).cell? ⟨w.heap.size, 1, none⟩ = some (.int .i64 room.b) ∧ ((wd).alloc (.cells #[] 29)).cell? ⟨w.heap.size, 2, none⟩ = some (.int .i64 room.c) ∧ ((wd).alloc (.cells #[] 29)).cell? ⟨w.heap.size + 1, 0, none⟩ = some (.string p.id) ∧ ((wd).alloc (.cells #[] 29)).cell? ⟨w.heap.size + 1, 1, none⟩ = some (.int .i64 p.prio) ∧ ((wd).alloc (.cells #[] 29)).cell? ⟨w.heap.size + 1, 2, none⟩ = some (.bool p.crit) ∧ ((wd).alloc (.cells #[] 29)).cell? ⟨w.heap.size + 1, 3, none⟩ = some (.int .i64 p.q0) ∧ ((wd).alloc (.cells #[] 29)).cell? ⟨w.heap.size + 1, 4, none⟩ = some (.int .i64 p.q1) ∧ ((wd).alloc (.cells #[] 29)).cell? ⟨w.heap.size + 1, 5, none⟩ = some (.int .i64 p.q2) ∧ ((wd).alloc (.cells #[] 29)).cell? ⟨w.heap.size + 1, 6, none⟩ = some (.int .i64 p.l0) ∧ ((wd).alloc (.cells #[] 29)).cell? ⟨w.heap.size + 1, 7, none⟩ = some (.int .i64 p.l1) ∧ ((wd).alloc (.cells #[] 29)).cell? ⟨w.heap.size + 1, 8, none⟩ = some (.int .i64 p.l2) ∧ ((wd).alloc (.cells #[] 29)).cell? ⟨w.heap.size + 1, 9, none⟩ = some (.string p.image) ∧ ((wd).alloc (.cells #[] 29)).cell? ⟨w.heap.size + 1, 10, none⟩ = some (.int .i64 p.size) from rpCells HQ.out)
      clear hK K
      simp only [Act.put, List.setIfInBounds_toArray, List.set_cons_zero, List.set_cons_succ]
      refine held_twoD 3 5 15 17 rfl rfl rfl rfl (by kernel_rfl) (by rfl) (by rfl) (fun K hK => ?_) (fun K hK => ?_)
      · refine wp_app (wd.alloc (.cells #[] 29)) elemP encP (.tmp 13) (.tmp 14) rfl wd.heap.size _ [] (by simp [Act.eval]) HOW.out Al l cl (by simp [Act.eval]) (HRd.out.below (HB.out.mono (by simp))) (by simp; omega) (by simp; omega) HB.out.size ?_
        intro A5 c5 w5 ho hg _
        have hb5 := HOW.out.belowGrown HB.out hg (Nat.le_refl _) HB.out.size
        have how : Own w5 wd.heap.size 29 encP (.slice A5 (l).length c5) l := by simpa using ho
        have HOW := Lib.hid how
        have HB := Lib.hid hb5
        clear ho how hg hb5
        have HQ := Lib.hid (HQd.out.below HB.out)
        have HRi := Lib.hid (HRd.out.below HB.out)
        simp only [List.length_nil, Nat.zero_add]
        refine hK _ _ (rpCells HQ.out) ?_
        have hHeld := (show w5.cell? ⟨w.heap.size, 0, none⟩ = some (.int .i64 room.a) ∧ w5.cell? ⟨w.heap.size, 1, none⟩ = some (.int .i64 room.b) ∧ w5.cell? ⟨w.heap.size, 2, none⟩ = some (.int .i64 room.c) ∧ w5.cell? ⟨w.heap.size + 1, 0, none⟩ = some (.string p.id) ∧ w5.cell? ⟨w.heap.size + 1, 1, none⟩ = some (.int .i64 p.prio) ∧ w5.cell? ⟨w.heap.size + 1, 2, none⟩ = some (.bool p.crit) ∧ w5.cell? ⟨w.heap.size + 1, 3, none⟩ = some (.int .i64 p.q0) ∧ w5.cell? ⟨w.heap.size + 1, 4, none⟩ = some (.int .i64 p.q1) ∧ w5.cell? ⟨w.heap.size + 1, 5, none⟩ = some (.int .i64 p.q2) ∧ w5.cell? ⟨w.heap.size + 1, 6, none⟩ = some (.int .i64 p.l0) ∧ w5.cell? ⟨w.heap.size + 1, 7, none⟩ = some (.int .i64 p.l1) ∧ w5.cell? ⟨w.heap.size + 1, 8, none⟩ = some (.int .i64 p.l2) ∧ w5.cell? ⟨w.heap.size + 1, 9, none⟩ = some (.string p.image) ∧ w5.cell? ⟨w.heap.size + 1, 10, none⟩ = some (.int .i64 p.size) from rpCells HQ.out)
        clear hK K
        simp only [Act.put, List.setIfInBounds_toArray, List.set_cons_zero, List.set_cons_succ]
        refine held_call 5 17 rfl rfl (by kernel_rfl) (by rfl) (fun K hK => ?_)
        go_simp
        have hrw := Rds.made (w5) encP [p] 29 #[.string p.id, .int .i64 p.prio, .bool p.crit, .int .i64 p.q0, .int .i64 p.q1, .int .i64 p.q2, .int .i64 p.l0, .int .i64 p.l1, .int .i64 p.l2, .string p.image, .int .i64 p.size] (0, 0) rfl
        have HOW := Lib.hid (HOW.out.alloc (.cells #[.string p.id, .int .i64 p.prio, .bool p.crit, .int .i64 p.q0, .int .i64 p.q1, .int .i64 p.q2, .int .i64 p.l0, .int .i64 p.l1, .int .i64 p.l2, .string p.image, .int .i64 p.size] 29))
        have HRW := Lib.hid hrw
        clear hrw
        have HB := Lib.hid (HB.out.alloc HB.out.size (.cells #[.string p.id, .int .i64 p.prio, .bool p.crit, .int .i64 p.q0, .int .i64 p.q1, .int .i64 p.q2, .int .i64 p.l0, .int .i64 p.l1, .int .i64 p.l2, .string p.image, .int .i64 p.size] 29))
        have HQ := Lib.hid (HQd.out.below HB.out)
        have HRi := Lib.hid (HRd.out.below HB.out)
        refine hK _ _ (rpCells HQ.out) ?_
        have hHeld := (show ((w5).alloc (.cells #[.string p.id, .int .i64 p.prio, .bool p.crit, .int .i64 p.q0, .int .i64 p.q1, .int .i64 p.q2, .int .i64 p.l0, .int .i64 p.l1, .int .i64 p.l2, .string p.image, .int .i64 p.size] 29)).cell? ⟨w.heap.size, 0, none⟩ = some (.int .i64 room.a) ∧ ((w5).alloc (.cells #[.string p.id, .int .i64 p.prio, .bool p.crit, .int .i64 p.q0, .int .i64 p.q1, .int .i64 p.q2, .int .i64 p.l0, .int .i64 p.l1, .int .i64 p.l2, .string p.image, .int .i64 p.size] 29)).cell? ⟨w.heap.size, 1, none⟩ = some (.int .i64 room.b) ∧ ((w5).alloc (.cells #[.string p.id, .int .i64 p.prio, .bool p.crit, .int .i64 p.q0, .int .i64 p.q1, .int .i64 p.q2, .int .i64 p.l0, .int .i64 p.l1, .int .i64 p.l2, .string p.image, .int .i64 p.size] 29)).cell? ⟨w.heap.size, 2, none⟩ = some (.int .i64 room.c) ∧ ((w5).alloc (.cells #[.string p.id, .int .i64 p.prio, .bool p.crit, .int .i64 p.q0, .int .i64 p.q1, .int .i64 p.q2, .int .i64 p.l0, .int .i64 p.l1, .int .i64 p.l2, .string p.image, .int .i64 p.size] 29)).cell? ⟨w.heap.size + 1, 0, none⟩ = some (.string p.id) ∧ ((w5).alloc (.cells #[.string p.id, .int .i64 p.prio, .bool p.crit, .int .i64 p.q0, .int .i64 p.q1, .int .i64 p.q2, .int .i64 p.l0, .int .i64 p.l1, .int .i64 p.l2, .string p.image, .int .i64 p.size] 29)).cell? ⟨w.heap.size + 1, 1, none⟩ = some (.int .i64 p.prio) ∧ ((w5).alloc (.cells #[.string p.id, .int .i64 p.prio, .bool p.crit, .int .i64 p.q0, .int .i64 p.q1, .int .i64 p.q2, .int .i64 p.l0, .int .i64 p.l1, .int .i64 p.l2, .string p.image, .int .i64 p.size] 29)).cell? ⟨w.heap.size + 1, 2, none⟩ = some (.bool p.crit) ∧ ((w5).alloc (.cells #[.string p.id, .int .i64 p.prio, .bool p.crit, .int .i64 p.q0, .int .i64 p.q1, .int .i64 p.q2, .int .i64 p.l0, .int .i64 p.l1, .int .i64 p.l2, .string p.image, .int .i64 p.size] 29)).cell? ⟨w.heap.size + 1, 3, none⟩ = some (.int .i64 p.q0) ∧ ((w5).alloc (.cells #[.string p.id, .int .i64 p.prio, .bool p.crit, .int .i64 p.q0, .int .i64 p.q1, .int .i64 p.q2, .int .i64 p.l0, .int .i64 p.l1, .int .i64 p.l2, .string p.image, .int .i64 p.size] 29)).cell? ⟨w.heap.size + 1, 4, none⟩ = some (.int .i64 p.q1) ∧ ((w5).alloc (.cells #[.string p.id, .int .i64 p.prio, .bool p.crit, .int .i64 p.q0, .int .i64 p.q1, .int .i64 p.q2, .int .i64 p.l0, .int .i64 p.l1, .int .i64 p.l2, .string p.image, .int .i64 p.size] 29)).cell? ⟨w.heap.size + 1, 5, none⟩ = some (.int .i64 p.q2) ∧ ((w5).alloc (.cells #[.string p.id, .int .i64 p.prio, .bool p.crit, .int .i64 p.q0, .int .i64 p.q1, .int .i64 p.q2, .int .i64 p.l0, .int .i64 p.l1, .int .i64 p.l2, .string p.image, .int .i64 p.size] 29)).cell? ⟨w.heap.size + 1, 6, none⟩ = some (.int .i64 p.l0) ∧ ((w5).alloc (.cells #[.string p.id, .int .i64 p.prio, .bool p.crit, .int .i64 p.q0, .int .i64 p.q1, .int .i64 p.q2, .int .i64 p.l0, .int .i64 p.l1, .int .i64 p.l2, .string p.image, .int .i64 p.size] 29)).cell? ⟨w.heap.size + 1, 7, none⟩ = some (.int .i64 p.l1) ∧ ((w5).alloc (.cells #[.string p.id, .int .i64 p.prio, .bool p.crit, .int .i64 p.q0, .int .i64 p.q1, .int .i64 p.q2, .int .i64 p.l0, .int .i64 p.l1, .int .i64 p.l2, .string p.image, .int .i64 p.size] 29)).cell? ⟨w.heap.size + 1, 8, none⟩ = some (.int .i64 p.l2) ∧ ((w5).alloc (.cells #[.string p.id, .int .i64 p.prio, .bool p.crit, .int .i64 p.q0, .int .i64 p.q1, .int .i64 p.q2, .int .i64 p.l0, .int .i64 p.l1, .int .i64 p.l2, .string p.image, .int .i64 p.size] 29)).cell? ⟨w.heap.size + 1, 9, none⟩ = some (.string p.image) ∧ ((w5).alloc (.cells #[.string p.id, .int .i64 p.prio, .bool p.crit, .int .i64 p.q0, .int .i64 p.q1, .int .i64 p.q2, .int .i64 p.l0, .int .i64 p.l1, .int .i64 p.l2, .string p.image, .int .i64 p.size] 29)).cell? ⟨w.heap.size + 1, 10, none⟩ = some (.int .i64 p.size) from rpCells HQ.out)
        clear hK K
        simp only [Act.put, List.setIfInBounds_toArray, List.set_cons_zero, List.set_cons_succ]
        refine held_call 6 18 rfl rfl (by kernel_rfl) (by rfl) (fun K hK => ?_)
        refine wp_app (w5.alloc (.cells #[.string p.id, .int .i64 p.prio, .bool p.crit, .int .i64 p.q0, .int .i64 p.q1, .int .i64 p.q2, .int .i64 p.l0, .int .i64 p.l1, .int .i64 p.l2, .string p.image, .int .i64 p.size] 29)) elemP encP (.tmp 15) (.tmp 17) rfl wd.heap.size _ l (by simp [Act.eval]) HOW.out _ [p] 1 (by simp [Act.eval]) HRW.out (by simp; omega) (by simp; omega) HB.out.size ?_
        intro A7 c7 w7 ho hg _
        have hb7 := HOW.out.belowGrown HB.out hg (Nat.le_refl _) HB.out.size
        have HOW := Lib.hid ho
        have HB := Lib.hid hb7
        clear ho hg hb7
        have HQ := Lib.hid (HQd.out.below HB.out)
        have HRi := Lib.hid (HRd.out.below HB.out)
        refine hK _ _ (rpCells HQ.out) ?_
        have hHeld := (show w7.cell? ⟨w.heap.size, 0, none⟩ = some (.int .i64 room.a) ∧ w7.cell? ⟨w.heap.size, 1, none⟩ = some (.int .i64 room.b) ∧ w7.cell? ⟨w.heap.size, 2, none⟩ = some (.int .i64 room.c) ∧ w7.cell? ⟨w.heap.size + 1, 0, none⟩ = some (.string p.id) ∧ w7.cell? ⟨w.heap.size + 1, 1, none⟩ = some (.int .i64 p.prio) ∧ w7.cell? ⟨w.heap.size + 1, 2, none⟩ = some (.bool p.crit) ∧ w7.cell? ⟨w.heap.size + 1, 3, none⟩ = some (.int .i64 p.q0) ∧ w7.cell? ⟨w.heap.size + 1, 4, none⟩ = some (.int .i64 p.q1) ∧ w7.cell? ⟨w.heap.size + 1, 5, none⟩ = some (.int .i64 p.q2) ∧ w7.cell? ⟨w.heap.size + 1, 6, none⟩ = some (.int .i64 p.l0) ∧ w7.cell? ⟨w.heap.size + 1, 7, none⟩ = some (.int .i64 p.l1) ∧ w7.cell? ⟨w.heap.size + 1, 8, none⟩ = some (.int .i64 p.l2) ∧ w7.cell? ⟨w.heap.size + 1, 9, none⟩ = some (.string p.image) ∧ w7.cell? ⟨w.heap.size + 1, 10, none⟩ = some (.int .i64 p.size) from rpCells HQ.out)
        clear hK K
        simp only [Act.put, List.setIfInBounds_toArray, List.set_cons_zero, List.set_cons_succ]
        refine held_call 7 19 rfl rfl (by kernel_rfl) (by rfl) (fun K hK => ?_)
        go_simp
        have HO7 := Lib.hid (show Rds w7 encP A7 (l ++ [p]) from HOW.out.toRds)
        go_at_call 33; with_reducible refine (refFitsN (show l.length + 1 = (l ++ [p]).length by simp) HVA.out HO7.out HWA.out (by simp; omega)).mono ?_; rintro e w9 ⟨rfl, hb⟩
        have HB := Lib.hid (below_rV HB.out hb)
        have HQ := Lib.hid (HQd.out.below HB.out)
        have HRi := Lib.hid (HRd.out.below HB.out)
        clear hb
        refine hK _ _ (rpCells HQ.out) ?_
        have hHeld := (show w9.cell? ⟨w.heap.size, 0, none⟩ = some (.int .i64 room.a) ∧ w9.cell? ⟨w.heap.size, 1, none⟩ = some (.int .i64 room.b) ∧ w9.cell? ⟨w.heap.size, 2, none⟩ = some (.int .i64 room.c) ∧ w9.cell? ⟨w.heap.size + 1, 0, none⟩ = some (.string p.id) ∧ w9.cell? ⟨w.heap.size + 1, 1, none⟩ = some (.int .i64 p.prio) ∧ w9.cell? ⟨w.heap.size + 1, 2, none⟩ = some (.bool p.crit) ∧ w9.cell? ⟨w.heap.size + 1, 3, none⟩ = some (.int .i64 p.q0) ∧ w9.cell? ⟨w.heap.size + 1, 4, none⟩ = some (.int .i64 p.q1) ∧ w9.cell? ⟨w.heap.size + 1, 5, none⟩ = some (.int .i64 p.q2) ∧ w9.cell? ⟨w.heap.size + 1, 6, none⟩ = some (.int .i64 p.l0) ∧ w9.cell? ⟨w.heap.size + 1, 7, none⟩ = some (.int .i64 p.l1) ∧ w9.cell? ⟨w.heap.size + 1, 8, none⟩ = some (.int .i64 p.l2) ∧ w9.cell? ⟨w.heap.size + 1, 9, none⟩ = some (.string p.image) ∧ w9.cell? ⟨w.heap.size + 1, 10, none⟩ = some (.int .i64 p.size) from rpCells HQ.out)
        clear hK K
        simp only [Act.put, List.setIfInBounds_toArray, List.set_cons_zero, List.set_cons_succ]
        refine wpAnyH_done (by kernel_rfl) ?_ _
        clear hHeld
        go_wp2_with fail
        go_ret2
        exact ⟨none, 0, rfl, Own.nil_ _ _ _ _, HQ.out.bel⟩
      · go_simp
        have hrw := Rds.made (wd.alloc (.cells #[] 29)) encP [p] 29 #[.string p.id, .int .i64 p.prio, .bool p.crit, .int .i64 p.q0, .int .i64 p.q1, .int .i64 p.q2, .int .i64 p.l0, .int .i64 p.l1, .int .i64 p.l2, .string p.image, .int .i64 p.size] (0, 0) rfl
        rw [show (wd.alloc (.cells #[] 29)).heap.size = wd.heap.size + 1 from by simp] at hrw
        have HOW := Lib.hid (HOW.out.alloc (.cells #[.string p.id, .int .i64 p.prio, .bool p.crit, .int .i64 p.q0, .int .i64 p.q1, .int .i64 p.q2, .int .i64 p.l0, .int .i64 p.l1, .int .i64 p.l2, .string p.image, .int .i64 p.size] 29))
        have HRW := Lib.hid hrw
        clear hrw
        have HB := Lib.hid (HB.out.alloc HB.out.size (.cells #[.string p.id, .int .i64 p.prio, .bool p.crit, .int .i64 p.q0, .int .i64 p.q1, .int .i64 p.q2, .int .i64 p.l0, .int .i64 p.l1, .int .i64 p.l2, .string p.image, .int .i64 p.size] 29))
        have HQ := Lib.hid (HQd.out.below HB.out)
        have HRi := Lib.hid (HRd.out.below HB.out)
        refine hK _ _ (rpCells HQ.out) ?_
        have hHeld := (show ((wd.alloc (.cells #[] 29)).alloc (.cells #[.string p.id, .int .i64 p.prio, .bool p.crit, .int .i64 p.q0, .int .i64 p.q1, .int .i64 p.q2, .int .i64 p.l0, .int .i64 p.l1, .int .i64 p.l2, .string p.image, .int .i64 p.size] 29)).cell? ⟨w.heap.size, 0, none⟩ = some (.int .i64 room.a) ∧ ((wd.alloc (.cells #[] 29)).alloc (.cells #[.string p.id, .int .i64 p.prio, .bool p.crit, .int .i64 p.q0, .int .i64 p.q1, .int .i64 p.q2, .int .i64 p.l0, .int .i64 p.l1, .int .i64 p.l2, .string p.image, .int .i64 p.size] 29)).cell? ⟨w.heap.size, 1, none⟩ = some (.int .i64 room.b) ∧ ((wd.alloc (.cells #[] 29)).alloc (.cells #[.string p.id, .int .i64 p.prio, .bool p.crit, .int .i64 p.q0, .int .i64 p.q1, .int .i64 p.q2, .int .i64 p.l0, .int .i64 p.l1, .int .i64 p.l2, .string p.image, .int .i64 p.size] 29)).cell? ⟨w.heap.size, 2, none⟩ = some (.int .i64 room.c) ∧ ((wd.alloc (.cells #[] 29)).alloc (.cells #[.string p.id, .int .i64 p.prio, .bool p.crit, .int .i64 p.q0, .int .i64 p.q1, .int .i64 p.q2, .int .i64 p.l0, .int .i64 p.l1, .int .i64 p.l2, .string p.image, .int .i64 p.size] 29)).cell? ⟨w.heap.size + 1, 0, none⟩ = some (.string p.id) ∧ ((wd.alloc (.cells #[] 29)).alloc (.cells #[.string p.id, .int .i64 p.prio, .bool p.crit, .int .i64 p.q0, .int .i64 p.q1, .int .i64 p.q2, .int .i64 p.l0, .int .i64 p.l1, .int .i64 p.l2, .string p.image, .int .i64 p.size] 29)).cell? ⟨w.heap.size + 1, 1, none⟩ = some (.int .i64 p.prio) ∧ ((wd.alloc (.cells #[] 29)).alloc (.cells #[.string p.id, .int .i64 p.prio, .bool p.crit, .int .i64 p.q0, .int .i64 p.q1, .int .i64 p.q2, .int .i64 p.l0, .int .i64 p.l1, .int .i64 p.l2, .string p.image, .int .i64 p.size] 29)).cell? ⟨w.heap.size + 1, 2, none⟩ = some (.bool p.crit) ∧ ((wd.alloc (.cells #[] 29)).alloc (.cells #[.string p.id, .int .i64 p.prio, .bool p.crit, .int .i64 p.q0, .int .i64 p.q1, .int .i64 p.q2, .int .i64 p.l0, .int .i64 p.l1, .int .i64 p.l2, .string p.image, .int .i64 p.size] 29)).cell? ⟨w.heap.size + 1, 3, none⟩ = some (.int .i64 p.q0) ∧ ((wd.alloc (.cells #[] 29)).alloc (.cells #[.string p.id, .int .i64 p.prio, .bool p.crit, .int .i64 p.q0, .int .i64 p.q1, .int .i64 p.q2, .int .i64 p.l0, .int .i64 p.l1, .int .i64 p.l2, .string p.image, .int .i64 p.size] 29)).cell? ⟨w.heap.size + 1, 4, none⟩ = some (.int .i64 p.q1) ∧ ((wd.alloc (.cells #[] 29)).alloc (.cells #[.string p.id, .int .i64 p.prio, .bool p.crit, .int .i64 p.q0, .int .i64 p.q1, .int .i64 p.q2, .int .i64 p.l0, .int .i64 p.l1, .int .i64 p.l2, .string p.image, .int .i64 p.size] 29)).cell? ⟨w.heap.size + 1, 5, none⟩ = some (.int .i64 p.q2) ∧ ((wd.alloc (.cells #[] 29)).alloc (.cells #[.string p.id, .int .i64 p.prio, .bool p.crit, .int .i64 p.q0, .int .i64 p.q1, .int .i64 p.q2, .int .i64 p.l0, .int .i64 p.l1, .int .i64 p.l2, .string p.image, .int .i64 p.size] 29)).cell? ⟨w.heap.size + 1, 6, none⟩ = some (.int .i64 p.l0) ∧ ((wd.alloc (.cells #[] 29)).alloc (.cells #[.string p.id, .int .i64 p.prio, .bool p.crit, .int .i64 p.q0, .int .i64 p.q1, .int .i64 p.q2, .int .i64 p.l0, .int .i64 p.l1, .int .i64 p.l2, .string p.image, .int .i64 p.size] 29)).cell? ⟨w.heap.size + 1, 7, none⟩ = some (.int .i64 p.l1) ∧ ((wd.alloc (.cells #[] 29)).alloc (.cells #[.string p.id, .int .i64 p.prio, .bool p.crit, .int .i64 p.q0, .int .i64 p.q1, .int .i64 p.q2, .int .i64 p.l0, .int .i64 p.l1, .int .i64 p.l2, .string p.image, .int .i64 p.size] 29)).cell? ⟨w.heap.size + 1, 8, none⟩ = some (.int .i64 p.l2) ∧ ((wd.alloc (.cells #[] 29)).alloc (.cells #[.string p.id, .int .i64 p.prio, .bool p.crit, .int .i64 p.q0, .int .i64 p.q1, .int .i64 p.q2, .int .i64 p.l0, .int .i64 p.l1, .int .i64 p.l2, .string p.image, .int .i64 p.size] 29)).cell? ⟨w.heap.size + 1, 9, none⟩ = some (.string p.image) ∧ ((wd.alloc (.cells #[] 29)).alloc (.cells #[.string p.id, .int .i64 p.prio, .bool p.crit, .int .i64 p.q0, .int .i64 p.q1, .int .i64 p.q2, .int .i64 p.l0, .int .i64 p.l1, .int .i64 p.l2, .string p.image, .int .i64 p.size] 29)).cell? ⟨w.heap.size + 1, 10, none⟩ = some (.int .i64 p.size) from rpCells HQ.out)
        clear hK K
        simp only [Act.put, List.setIfInBounds_toArray, List.set_cons_zero, List.set_cons_succ]
        refine held_call 3 15 rfl rfl (by kernel_rfl) (by rfl) (fun K hK => ?_)
        refine wp_app ((wd.alloc (.cells #[] 29)).alloc (.cells #[.string p.id, .int .i64 p.prio, .bool p.crit, .int .i64 p.q0, .int .i64 p.q1, .int .i64 p.q2, .int .i64 p.l0, .int .i64 p.l1, .int .i64 p.l2, .string p.image, .int .i64 p.size] 29)) elemP encP (.tmp 13) (.tmp 14) rfl wd.heap.size _ [] (by simp [Act.eval]) HOW.out Al l cl (by simp [Act.eval]) (HRd.out.below (HB.out.mono (by simp))) (by simp; omega) (by simp; omega) HB.out.size ?_
        intro A5 c5 w5 ho hg _
        have hb5 := HOW.out.belowGrown HB.out hg (Nat.le_refl _) HB.out.size
        have HRW := Lib.hid (HRW.out.grownN hg (by simp [Value.ownBlock]))
        have how : Own w5 wd.heap.size 29 encP (.slice A5 (l).length c5) l := by simpa using ho
        have HOW := Lib.hid how
        have HB := Lib.hid hb5
        clear ho how hg hb5
        have HQ := Lib.hid (HQd.out.below HB.out)
        have HRi := Lib.hid (HRd.out.below HB.out)
        simp only [List.length_nil, Nat.zero_add]
        refine hK _ _ (rpCells HQ.out) ?_
        have hHeld := (show w5.cell? ⟨w.heap.size, 0, none⟩ = some (.int .i64 room.a) ∧ w5.cell? ⟨w.heap.size, 1, none⟩ = some (.int .i64 room.b) ∧ w5.cell? ⟨w.heap.size, 2, none⟩ = some (.int .i64 room.c) ∧ w5.cell? ⟨w.heap.size + 1, 0, none⟩ = some (.string p.id) ∧ w5.cell? ⟨w.heap.size + 1, 1, none⟩ = some (.int .i64 p.prio) ∧ w5.cell? ⟨w.heap.size + 1, 2, none⟩ = some (.bool p.crit) ∧ w5.cell? ⟨w.heap.size + 1, 3, none⟩ = some (.int .i64 p.q0) ∧ w5.cell? ⟨w.heap.size + 1, 4, none⟩ = some (.int .i64 p.q1) ∧ w5.cell? ⟨w.heap.size + 1, 5, none⟩ = some (.int .i64 p.q2) ∧ w5.cell? ⟨w.heap.size + 1, 6, none⟩ = some (.int .i64 p.l0) ∧ w5.cell? ⟨w.heap.size + 1, 7, none⟩ = some (.int .i64 p.l1) ∧ w5.cell? ⟨w.heap.size + 1, 8, none⟩ = some (.int .i64 p.l2) ∧ w5.cell? ⟨w.heap.size + 1, 9, none⟩ = some (.string p.image) ∧ w5.cell? ⟨w.heap.size + 1, 10, none⟩ = some (.int .i64 p.size) from rpCells HQ.out)
        clear hK K
        simp only [Act.put, List.setIfInBounds_toArray, List.set_cons_zero, List.set_cons_succ]
        refine held_call 6 18 rfl rfl (by kernel_rfl) (by rfl) (fun K hK => ?_)
        refine wp_app (w5) elemP encP (.tmp 15) (.tmp 17) rfl wd.heap.size _ l (by simp [Act.eval]) HOW.out _ [p] 1 (by simp [Act.eval]) HRW.out (by simp; omega) (by simp; omega) HB.out.size ?_
        intro A7 c7 w7 ho hg _
        have hb7 := HOW.out.belowGrown HB.out hg (Nat.le_refl _) HB.out.size
        have HOW := Lib.hid ho
        have HB := Lib.hid hb7
        clear ho hg hb7
        have HQ := Lib.hid (HQd.out.below HB.out)
        have HRi := Lib.hid (HRd.out.below HB.out)
        refine hK _ _ (rpCells HQ.out) ?_
        have hHeld := (show w7.cell? ⟨w.heap.size, 0, none⟩ = some (.int .i64 room.a) ∧ w7.cell? ⟨w.heap.size, 1, none⟩ = some (.int .i64 room.b) ∧ w7.cell? ⟨w.heap.size, 2, none⟩ = some (.int .i64 room.c) ∧ w7.cell? ⟨w.heap.size + 1, 0, none⟩ = some (.string p.id) ∧ w7.cell? ⟨w.heap.size + 1, 1, none⟩ = some (.int .i64 p.prio) ∧ w7.cell? ⟨w.heap.size + 1, 2, none⟩ = some (.bool p.crit) ∧ w7.cell? ⟨w.heap.size + 1, 3, none⟩ = some (.int .i64 p.q0) ∧ w7.cell? ⟨w.heap.size + 1, 4, none⟩ = some (.int .i64 p.q1) ∧ w7.cell? ⟨w.heap.size + 1, 5, none⟩ = some (.int .i64 p.q2) ∧ w7.cell? ⟨w.heap.size + 1, 6, none⟩ = some (.int .i64 p.l0) ∧ w7.cell? ⟨w.heap.size + 1, 7, none⟩ = some (.int .i64 p.l1) ∧ w7.cell? ⟨w.heap.size + 1, 8, none⟩ = some (.int .i64 p.l2) ∧ w7.cell? ⟨w.heap.size + 1, 9, none⟩ = some (.string p.image) ∧ w7.cell? ⟨w.heap.size + 1, 10, none⟩ = some (.int .i64 p.size) from rpCells HQ.out)
        clear hK K
        simp only [Act.put, List.setIfInBounds_toArray, List.set_cons_zero, List.set_cons_succ]
        refine held_call 7 19 rfl rfl (by kernel_rfl) (by rfl) (fun K hK => ?_)
        go_simp
        have HO7 := Lib.hid (show Rds w7 encP A7 (l ++ [p]) from HOW.out.toRds)
        go_at_call 33; with_reducible refine (refFitsN (show l.length + 1 = (l ++ [p]).length by simp) HVA.out HO7.out HWA.out (by simp; omega)).mono ?_; rintro e w9 ⟨rfl, hb⟩
        have HB := Lib.hid (below_rV HB.out hb)
        have HQ := Lib.hid (HQd.out.below HB.out)
        have HRi := Lib.hid (HRd.out.below HB.out)
        clear hb
        refine hK _ _ (rpCells HQ.out) ?_
        have hHeld := (show w9.cell? ⟨w.heap.size, 0, none⟩ = some (.int .i64 room.a) ∧ w9.cell? ⟨w.heap.size, 1, none⟩ = some (.int .i64 room.b) ∧ w9.cell? ⟨w.heap.size, 2, none⟩ = some (.int .i64 room.c) ∧ w9.cell? ⟨w.heap.size + 1, 0, none⟩ = some (.string p.id) ∧ w9.cell? ⟨w.heap.size + 1, 1, none⟩ = some (.int .i64 p.prio) ∧ w9.cell? ⟨w.heap.size + 1, 2, none⟩ = some (.bool p.crit) ∧ w9.cell? ⟨w.heap.size + 1, 3, none⟩ = some (.int .i64 p.q0) ∧ w9.cell? ⟨w.heap.size + 1, 4, none⟩ = some (.int .i64 p.q1) ∧ w9.cell? ⟨w.heap.size + 1, 5, none⟩ = some (.int .i64 p.q2) ∧ w9.cell? ⟨w.heap.size + 1, 6, none⟩ = some (.int .i64 p.l0) ∧ w9.cell? ⟨w.heap.size + 1, 7, none⟩ = some (.int .i64 p.l1) ∧ w9.cell? ⟨w.heap.size + 1, 8, none⟩ = some (.int .i64 p.l2) ∧ w9.cell? ⟨w.heap.size + 1, 9, none⟩ = some (.string p.image) ∧ w9.cell? ⟨w.heap.size + 1, 10, none⟩ = some (.int .i64 p.size) from rpCells HQ.out)
        clear hK K
        simp only [Act.put, List.setIfInBounds_toArray, List.set_cons_zero, List.set_cons_succ]
        refine wpAnyH_done (by kernel_rfl) ?_ _
        clear hHeld
        go_wp2_with fail
        go_ret2
        exact ⟨none, 0, rfl, Own.nil_ _ _ _ _, HQ.out.bel⟩
    · go_simp
      have hrw := Rds.made (wd) encP [p] 29 #[.string p.id, .int .i64 p.prio, .bool p.crit, .int .i64 p.q0, .int .i64 p.q1, .int .i64 p.q2, .int .i64 p.l0, .int .i64 p.l1, .int .i64 p.l2, .string p.image, .int .i64 p.size] (0, 0) rfl
      have HRW := Lib.hid hrw
      clear hrw
      have HB := Lib.hid (HB.out.alloc HB.out.size (.cells #[.string p.id, .int .i64 p.prio, .bool p.crit, .int .i64 p.q0, .int .i64 p.q1, .int .i64 p.q2, .int .i64 p.l0, .int .i64 p.l1, .int .i64 p.l2, .string p.image, .int .i64 p.size] 29))
      have HQ := Lib.hid (HQd.out.below HB.out)
      have HRi := Lib.hid (HRd.out.below HB.out)
      refine hK _ _ (rpCells HQ.out) ?_
      have hHeld := (show ((wd).alloc (.cells #[.string p.id, .int .i64 p.prio, .bool p.crit, .int .i64 p.q0, .int .i64 p.q1, .int .i64 p.q2, .int .i64 p.l0, .int .i64 p.l1, .int .i64 p.l2, .string p.image, .int .i64 p.size] 29)).cell? ⟨w.heap.size, 0, none⟩ = some (.int .i64 room.a) ∧ ((wd).alloc (.cells #[.string p.id, .int .i64 p.prio, .bool p.crit, .int .i64 p.q0, .int .i64 p.q1, .int .i64 p.q2, .int .i64 p.l0, .int .i64 p.l1, .int .i64 p.l2, .string p.image, .int .i64 p.size] 29)).cell? ⟨w.heap.size, 1, none⟩ = some (.int .i64 room.b) ∧ ((wd).alloc (.cells #[.string p.id, .int .i64 p.prio, .bool p.crit, .int .i64 p.q0, .int .i64 p.q1, .int .i64 p.q2, .int .i64 p.l0, .int .i64 p.l1, .int .i64 p.l2, .string p.image, .int .i64 p.size] 29)).cell? ⟨w.heap.size, 2, none⟩ = some (.int .i64 room.c) ∧ ((wd).alloc (.cells #[.string p.id, .int .i64 p.prio, .bool p.crit, .int .i64 p.q0, .int .i64 p.q1, .int .i64 p.q2, .int .i64 p.l0, .int .i64 p.l1, .int .i64 p.l2, .string p.image, .int .i64 p.size] 29)).cell? ⟨w.heap.size + 1, 0, none⟩ = some (.string p.id) ∧ ((wd).alloc (.cells #[.string p.id, .int .i64 p.prio, .bool p.crit, .int .i64 p.q0, .int .i64 p.q1, .int .i64 p.q2, .int .i64 p.l0, .int .i64 p.l1, .int .i64 p.l2, .string p.image, .int .i64 p.size] 29)).cell? ⟨w.heap.size + 1, 1, none⟩ = some (.int .i64 p.prio) ∧ ((wd).alloc (.cells #[.string p.id, .int .i64 p.prio, .bool p.crit, .int .i64 p.q0, .int .i64 p.q1, .int .i64 p.q2, .int .i64 p.l0, .int .i64 p.l1, .int .i64 p.l2, .string p.image, .int .i64 p.size] 29)).cell? ⟨w.heap.size + 1, 2, none⟩ = some (.bool p.crit) ∧ ((wd).alloc (.cells #[.string p.id, .int .i64 p.prio, .bool p.crit, .int .i64 p.q0, .int .i64 p.q1, .int .i64 p.q2, .int .i64 p.l0, .int .i64 p.l1, .int .i64 p.l2, .string p.image, .int .i64 p.size] 29)).cell? ⟨w.heap.size + 1, 3, none⟩ = some (.int .i64 p.q0) ∧ ((wd).alloc (.cells #[.string p.id, .int .i64 p.prio, .bool p.crit, .int .i64 p.q0, .int .i64 p.q1, .int .i64 p.q2, .int .i64 p.l0, .int .i64 p.l1, .int .i64 p.l2, .string p.image, .int .i64 p.size] 29)).cell? ⟨w.heap.size + 1, 4, none⟩ = some (.int .i64 p.q1) ∧ ((wd).alloc (.cells #[.string p.id, .int .i64 p.prio, .bool p.crit, .int .i64 p.q0, .int .i64 p.q1, .int .i64 p.q2, .int .i64 p.l0, .int .i64 p.l1, .int .i64 p.l2, .string p.image, .int .i64 p.size] 29)).cell? ⟨w.heap.size + 1, 5, none⟩ = some (.int .i64 p.q2) ∧ ((wd).alloc (.cells #[.string p.id, .int .i64 p.prio, .bool p.crit, .int .i64 p.q0, .int .i64 p.q1, .int .i64 p.q2, .int .i64 p.l0, .int .i64 p.l1, .int .i64 p.l2, .string p.image, .int .i64 p.size] 29)).cell? ⟨w.heap.size + 1, 6, none⟩ = some (.int .i64 p.l0) ∧ ((wd).alloc (.cells #[.string p.id, .int .i64 p.prio, .bool p.crit, .int .i64 p.q0, .int .i64 p.q1, .int .i64 p.q2, .int .i64 p.l0, .int .i64 p.l1, .int .i64 p.l2, .string p.image, .int .i64 p.size] 29)).cell? ⟨w.heap.size + 1, 7, none⟩ = some (.int .i64 p.l1) ∧ ((wd).alloc (.cells #[.string p.id, .int .i64 p.prio, .bool p.crit, .int .i64 p.q0, .int .i64 p.q1, .int .i64 p.q2, .int .i64 p.l0, .int .i64 p.l1, .int .i64 p.l2, .string p.image, .int .i64 p.size] 29)).cell? ⟨w.heap.size + 1, 8, none⟩ = some (.int .i64 p.l2) ∧ ((wd).alloc (.cells #[.string p.id, .int .i64 p.prio, .bool p.crit, .int .i64 p.q0, .int .i64 p.q1, .int .i64 p.q2, .int .i64 p.l0, .int .i64 p.l1, .int .i64 p.l2, .string p.image, .int .i64 p.size] 29)).cell? ⟨w.heap.size + 1, 9, none⟩ = some (.string p.image) ∧ ((wd).alloc (.cells #[.string p.id, .int .i64 p.prio, .bool p.crit, .int .i64 p.q0, .int .i64 p.q1, .int .i64 p.q2, .int .i64 p.l0, .int .i64 p.l1, .int .i64 p.l2, .string p.image, .int .i64 p.size] 29)).cell? ⟨w.heap.size + 1, 10, none⟩ = some (.int .i64 p.size) from rpCells HQ.out)
      clear hK K
      simp only [Act.put, List.setIfInBounds_toArray, List.set_cons_zero, List.set_cons_succ]
      refine held_call 1 13 rfl rfl (by kernel_rfl) (by rfl) (fun K hK => ?_)
      go_simp
      have how := Own.made (wd.alloc (.cells #[.string p.id, .int .i64 p.prio, .bool p.crit, .int .i64 p.q0, .int .i64 p.q1, .int .i64 p.q2, .int .i64 p.l0, .int .i64 p.l1, .int .i64 p.l2, .string p.image, .int .i64 p.size] 29)) wd.heap.size 29 encP [] #[] rfl HB.out.size (by simp)
      rw [show (wd.alloc (.cells #[.string p.id, .int .i64 p.prio, .bool p.crit, .int .i64 p.q0, .int .i64 p.q1, .int .i64 p.q2, .int .i64 p.l0, .int .i64 p.l1, .int .i64 p.l2, .string p.image, .int .i64 p.size] 29)).heap.size = wd.heap.size + 1 from by simp] at how
      have HRW := Lib.hid (HRW.out.alloc (.cells #[] 29))
      have HOW := Lib.hid how
      clear how
      have HB := Lib.hid (HB.out.alloc HB.out.size (.cells #[] 29))
      have HQ := Lib.hid (HQd.out.below HB.out)
      have HRi := Lib.hid (HRd.out.below HB.out)
      refine hK _ _ (rpCells HQ.out) ?_
      have hHeld := (show ((wd.alloc (.cells #[.string p.id, .int .i64 p.prio, .bool p.crit, .int .i64 p.q0, .int .i64 p.q1, .int .i64 p.q2, .int .i64 p.l0, .int .i64 p.l1, .int .i64 p.l2, .string p.image, .int .i64 p.size] 29)).alloc (.cells #[] 29)).cell? ⟨w.heap.size, 0, none⟩ = some (.int .i64 room.a) ∧ ((wd.alloc (.cells #[.string p.id, .int .i64 p.prio, .bool p.crit, .int .i64 p.q0, .int .i64 p.q1, .int .i64 p.q2, .int .i64 p.l0, .int .i64 p.l1, .int .i64 p.l2, .string p.image, .int .i64 p.size] 29)).alloc (.cells #[] 29)).cell? ⟨w.heap.size, 1, none⟩ = some (.int .i64 room.b) ∧ ((wd.alloc (.cells #[.string p.id, .int .i64 p.prio, .bool p.crit, .int .i64 p.q0, .int .i64 p.q1, .int .i64 p.q2, .int .i64 p.l0, .int .i64 p.l1, .int .i64 p.l2, .string p.image, .int .i64 p.size] 29)).alloc (.cells #[] 29)).cell? ⟨w.heap.size, 2, none⟩ = some (.int .i64 room.c) ∧ ((wd.alloc (.cells #[.string p.id, .int .i64 p.prio, .bool p.crit, .int .i64 p.q0, .int .i64 p.q1, .int .i64 p.q2, .int .i64 p.l0, .int .i64 p.l1, .int .i64 p.l2, .string p.image, .int .i64 p.size] 29)).alloc (.cells #[] 29)).cell? ⟨w.heap.size + 1, 0, none⟩ = some (.string p.id) ∧ ((wd.alloc (.cells #[.string p.id, .int .i64 p.prio, .bool p.crit, .int .i64 p.q0, .int .i64 p.q1, .int .i64 p.q2, .int .i64 p.l0, .int .i64 p.l1, .int .i64 p.l2, .string p.image, .int .i64 p.size] 29)).alloc (.cells #[] 29)).cell? ⟨w.heap.size + 1, 1, none⟩ = some (.int .i64 p.prio) ∧ ((wd.alloc (.cells #[.string p.id, .int .i64 p.prio, .bool p.crit, .int .i64 p.q0, .int .i64 p.q1, .int .i64 p.q2, .int .i64 p.l0, .int .i64 p.l1, .int .i64 p.l2, .string p.image, .int .i64 p.size] 29)).alloc (.cells #[] 29)).cell? ⟨w.heap.size + 1, 2, none⟩ = some (.bool p.crit) ∧ ((wd.alloc (.cells #[.string p.id, .int .i64 p.prio, .bool p.crit, .int .i64 p.q0, .int .i64 p.q1, .int .i64 p.q2, .int .i64 p.l0, .int .i64 p.l1, .int .i64 p.l2, .string p.image, .int .i64 p.size] 29)).alloc (.cells #[] 29)).cell? ⟨w.heap.size + 1, 3, none⟩ = some (.int .i64 p.q0) ∧ ((wd.alloc (.cells #[.string p.id, .int .i64 p.prio, .bool p.crit, .int .i64 p.q0, .int .i64 p.q1, .int .i64 p.q2, .int .i64 p.l0, .int .i64 p.l1, .int .i64 p.l2, .string p.image, .int .i64 p.size] 29)).alloc (.cells #[] 29)).cell? ⟨w.heap.size + 1, 4, none⟩ = some (.int .i64 p.q1) ∧ ((wd.alloc (.cells #[.string p.id, .int .i64 p.prio, .bool p.crit, .int .i64 p.q0, .int .i64 p.q1, .int .i64 p.q2, .int .i64 p.l0, .int .i64 p.l1, .int .i64 p.l2, .string p.image, .int .i64 p.size] 29)).alloc (.cells #[] 29)).cell? ⟨w.heap.size + 1, 5, none⟩ = some (.int .i64 p.q2) ∧ ((wd.alloc (.cells #[.string p.id, .int .i64 p.prio, .bool p.crit, .int .i64 p.q0, .int .i64 p.q1, .int .i64 p.q2, .int .i64 p.l0, .int .i64 p.l1, .int .i64 p.l2, .string p.image, .int .i64 p.size] 29)).alloc (.cells #[] 29)).cell? ⟨w.heap.size + 1, 6, none⟩ = some (.int .i64 p.l0) ∧ ((wd.alloc (.cells #[.string p.id, .int .i64 p.prio, .bool p.crit, .int .i64 p.q0, .int .i64 p.q1, .int .i64 p.q2, .int .i64 p.l0, .int .i64 p.l1, .int .i64 p.l2, .string p.image, .int .i64 p.size] 29)).alloc (.cells #[] 29)).cell? ⟨w.heap.size + 1, 7, none⟩ = some (.int .i64 p.l1) ∧ ((wd.alloc (.cells #[.string p.id, .int .i64 p.prio, .bool p.crit, .int .i64 p.q0, .int .i64 p.q1, .int .i64 p.q2, .int .i64 p.l0, .int .i64 p.l1, .int .i64 p.l2, .string p.image, .int .i64 p.size] 29)).alloc (.cells #[] 29)).cell? ⟨w.heap.size + 1, 8, none⟩ = some (.int .i64 p.l2) ∧ ((wd.alloc (.cells #[.string p.id, .int .i64 p.prio, .bool p.crit, .int .i64 p.q0, .int .i64 p.q1, .int .i64 p.q2, .int .i64 p.l0, .int .i64 p.l1, .int .i64 p.l2, .string p.image, .int .i64 p.size] 29)).alloc (.cells #[] 29)).cell? ⟨w.heap.size + 1, 9, none⟩ = some (.string p.image) ∧ ((wd.alloc (.cells #[.string p.id, .int .i64 p.prio, .bool p.crit, .int .i64 p.q0, .int .i64 p.q1, .int .i64 p.q2, .int .i64 p.l0, .int .i64 p.l1, .int .i64 p.l2, .string p.image, .int .i64 p.size] 29)).alloc (.cells #[] 29)).cell? ⟨w.heap.size + 1, 10, none⟩ = some (.int .i64 p.size) from rpCells HQ.out)
      clear hK K
      simp only [Act.put, List.setIfInBounds_toArray, List.set_cons_zero, List.set_cons_succ]
      refine held_call 3 15 rfl rfl (by kernel_rfl) (by rfl) (fun K hK => ?_)
      refine wp_app ((wd.alloc (.cells #[.string p.id, .int .i64 p.prio, .bool p.crit, .int .i64 p.q0, .int .i64 p.q1, .int .i64 p.q2, .int .i64 p.l0, .int .i64 p.l1, .int .i64 p.l2, .string p.image, .int .i64 p.size] 29)).alloc (.cells #[] 29)) elemP encP (.tmp 13) (.tmp 14) rfl wd.heap.size _ [] (by simp [Act.eval]) HOW.out Al l cl (by simp [Act.eval]) (HRd.out.below (HB.out.mono (by simp))) (by simp; omega) (by simp; omega) HB.out.size ?_
      intro A5 c5 w5 ho hg _
      have hb5 := HOW.out.belowGrown HB.out hg (Nat.le_refl _) HB.out.size
      have HRW := Lib.hid (HRW.out.grownN hg (by simp [Value.ownBlock]))
      have how : Own w5 wd.heap.size 29 encP (.slice A5 (l).length c5) l := by simpa using ho
      have HOW := Lib.hid how
      have HB := Lib.hid hb5
      clear ho how hg hb5
      have HQ := Lib.hid (HQd.out.below HB.out)
      have HRi := Lib.hid (HRd.out.below HB.out)
      simp only [List.length_nil, Nat.zero_add]
      refine hK _ _ (rpCells HQ.out) ?_
      have hHeld := (show w5.cell? ⟨w.heap.size, 0, none⟩ = some (.int .i64 room.a) ∧ w5.cell? ⟨w.heap.size, 1, none⟩ = some (.int .i64 room.b) ∧ w5.cell? ⟨w.heap.size, 2, none⟩ = some (.int .i64 room.c) ∧ w5.cell? ⟨w.heap.size + 1, 0, none⟩ = some (.string p.id) ∧ w5.cell? ⟨w.heap.size + 1, 1, none⟩ = some (.int .i64 p.prio) ∧ w5.cell? ⟨w.heap.size + 1, 2, none⟩ = some (.bool p.crit) ∧ w5.cell? ⟨w.heap.size + 1, 3, none⟩ = some (.int .i64 p.q0) ∧ w5.cell? ⟨w.heap.size + 1, 4, none⟩ = some (.int .i64 p.q1) ∧ w5.cell? ⟨w.heap.size + 1, 5, none⟩ = some (.int .i64 p.q2) ∧ w5.cell? ⟨w.heap.size + 1, 6, none⟩ = some (.int .i64 p.l0) ∧ w5.cell? ⟨w.heap.size + 1, 7, none⟩ = some (.int .i64 p.l1) ∧ w5.cell? ⟨w.heap.size + 1, 8, none⟩ = some (.int .i64 p.l2) ∧ w5.cell? ⟨w.heap.size + 1, 9, none⟩ = some (.string p.image) ∧ w5.cell? ⟨w.heap.size + 1, 10, none⟩ = some (.int .i64 p.size) from rpCells HQ.out)
      clear hK K
      simp only [Act.put, List.setIfInBounds_toArray, List.set_cons_zero, List.set_cons_succ]
      refine held_call 6 18 rfl rfl (by kernel_rfl) (by rfl) (fun K hK => ?_)
      refine wp_app (w5) elemP encP (.tmp 15) (.tmp 17) rfl wd.heap.size _ l (by simp [Act.eval]) HOW.out _ [p] 1 (by simp [Act.eval]) HRW.out (by simp; omega) (by simp; omega) HB.out.size ?_
      intro A7 c7 w7 ho hg _
      have hb7 := HOW.out.belowGrown HB.out hg (Nat.le_refl _) HB.out.size
      have HOW := Lib.hid ho
      have HB := Lib.hid hb7
      clear ho hg hb7
      have HQ := Lib.hid (HQd.out.below HB.out)
      have HRi := Lib.hid (HRd.out.below HB.out)
      refine hK _ _ (rpCells HQ.out) ?_
      have hHeld := (show w7.cell? ⟨w.heap.size, 0, none⟩ = some (.int .i64 room.a) ∧ w7.cell? ⟨w.heap.size, 1, none⟩ = some (.int .i64 room.b) ∧ w7.cell? ⟨w.heap.size, 2, none⟩ = some (.int .i64 room.c) ∧ w7.cell? ⟨w.heap.size + 1, 0, none⟩ = some (.string p.id) ∧ w7.cell? ⟨w.heap.size + 1, 1, none⟩ = some (.int .i64 p.prio) ∧ w7.cell? ⟨w.heap.size + 1, 2, none⟩ = some (.bool p.crit) ∧ w7.cell? ⟨w.heap.size + 1, 3, none⟩ = some (.int .i64 p.q0) ∧ w7.cell? ⟨w.heap.size + 1, 4, none⟩ = some (.int .i64 p.q1) ∧ w7.cell? ⟨w.heap.size + 1, 5, none⟩ = some (.int .i64 p.q2) ∧ w7.cell? ⟨w.heap.size + 1, 6, none⟩ = some (.int .i64 p.l0) ∧ w7.cell? ⟨w.heap.size + 1, 7, none⟩ = some (.int .i64 p.l1) ∧ w7.cell? ⟨w.heap.size + 1, 8, none⟩ = some (.int .i64 p.l2) ∧ w7.cell? ⟨w.heap.size + 1, 9, none⟩ = some (.string p.image) ∧ w7.cell? ⟨w.heap.size + 1, 10, none⟩ = some (.int .i64 p.size) from rpCells HQ.out)
      clear hK K
      simp only [Act.put, List.setIfInBounds_toArray, List.set_cons_zero, List.set_cons_succ]
      refine held_call 7 19 rfl rfl (by kernel_rfl) (by rfl) (fun K hK => ?_)
      go_simp
      have HO7 := Lib.hid (show Rds w7 encP A7 (l ++ [p]) from HOW.out.toRds)
      go_at_call 33; with_reducible refine (refFitsN (show l.length + 1 = (l ++ [p]).length by simp) HVA.out HO7.out HWA.out (by simp; omega)).mono ?_; rintro e w9 ⟨rfl, hb⟩
      have HB := Lib.hid (below_rV HB.out hb)
      have HQ := Lib.hid (HQd.out.below HB.out)
      have HRi := Lib.hid (HRd.out.below HB.out)
      clear hb
      refine hK _ _ (rpCells HQ.out) ?_
      have hHeld := (show w9.cell? ⟨w.heap.size, 0, none⟩ = some (.int .i64 room.a) ∧ w9.cell? ⟨w.heap.size, 1, none⟩ = some (.int .i64 room.b) ∧ w9.cell? ⟨w.heap.size, 2, none⟩ = some (.int .i64 room.c) ∧ w9.cell? ⟨w.heap.size + 1, 0, none⟩ = some (.string p.id) ∧ w9.cell? ⟨w.heap.size + 1, 1, none⟩ = some (.int .i64 p.prio) ∧ w9.cell? ⟨w.heap.size + 1, 2, none⟩ = some (.bool p.crit) ∧ w9.cell? ⟨w.heap.size + 1, 3, none⟩ = some (.int .i64 p.q0) ∧ w9.cell? ⟨w.heap.size + 1, 4, none⟩ = some (.int .i64 p.q1) ∧ w9.cell? ⟨w.heap.size + 1, 5, none⟩ = some (.int .i64 p.q2) ∧ w9.cell? ⟨w.heap.size + 1, 6, none⟩ = some (.int .i64 p.l0) ∧ w9.cell? ⟨w.heap.size + 1, 7, none⟩ = some (.int .i64 p.l1) ∧ w9.cell? ⟨w.heap.size + 1, 8, none⟩ = some (.int .i64 p.l2) ∧ w9.cell? ⟨w.heap.size + 1, 9, none⟩ = some (.string p.image) ∧ w9.cell? ⟨w.heap.size + 1, 10, none⟩ = some (.int .i64 p.size) from rpCells HQ.out)
      clear hK K
      simp only [Act.put, List.setIfInBounds_toArray, List.set_cons_zero, List.set_cons_succ]
      refine wpAnyH_done (by kernel_rfl) ?_ _
      clear hHeld
      go_wp2_with fail
      go_ret2
      exact ⟨none, 0, rfl, Own.nil_ _ _ _ _, HQ.out.bel⟩
def GivesR (O : List ByteArray) (bb : Bool) (w : World) (e : Ending) (w' : World) : Prop := ∃ (A : Option Addr) (c : Nat), e = .returned (.tuple #[.slice A O.length c, .bool bb]) ∧ Rds w' encS A O ∧ Below w.heap.size w w'
theorem refChoose_any {room : S3} {p : Pd} {l : List Pd} {O : List ByteArray} {bb : Bool} (hF : FitV room l p) (hwho : WhoD room p l O bb) (Al : Option Addr) (cl : Nat) (w : World) (hr : Rds w encP Al l) (hw : ∀ x ∈ l, x.Wf) (hp : p.Wf) :
    Calls Tryz.prog 21 #[.agg #[.int .i64 room.a, .int .i64 room.b, .int .i64 room.c], .slice Al l.length cl, .agg p.cells] w (GivesR O bb w) :=
  (refChooseO_any hF hwho Al cl w hr hw hp).mono fun _ _ h => by obtain ⟨A, c, e, ho, hb⟩ := h; exact ⟨A, c, e, ho.toRds, hb⟩
end Go.Proofs.YtlhmhcidknadmaaGreatDoor
