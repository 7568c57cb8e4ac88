/- Several texts in one: The reader of a state's bytes: next, entry. The plain law: a right pod's bytes are cut to that pod; so unlike right pods have bytes of which none begins the other's. The plain law: what is cut off stays, whatever is laid behind; so no beginning of a right pod's bytes is cut to a pod. -/
import Derived.Test.YtakgblgbfbpmoaaDoorMM
import Derived.Test.YtakgblgbfbpmoaaDoorMN
namespace Go.Proofs.YtakgblgbfbpmoaaDoor
open Go.RowKit

/-- a reader's bytes, and whether it is bad -/
structure RdQ (g : Nat) (m : List UInt8) (bad : Bool) (A : Option Addr) (c : Nat) (W : World) : Prop where
  blk : Blk W g 68 #[.slice A m.length c, .bool bad]
  rds : Rds W encB A m
  cap : m.length ≤ c
  lim : c ≤ 9223372036854775807
  len : m.length ≤ 140737488355328
  far : ∀ a, A = some a → m ≠ [] → a.block ≠ g
theorem RdQ.below {g : Nat} {m : List UInt8} {bad : Bool} {A : Option Addr} {c : Nat} {W W' : World} (h : RdQ g m bad A c W) (hb : Below W.heap.size W W') : RdQ g m bad A c W' := ⟨h.blk.belowAll hb, h.rds.below hb, h.cap, h.lim, h.len, h.far⟩
theorem RdQ.alloc {g : Nat} {m : List UInt8} {bad : Bool} {A : Option Addr} {c : Nat} {W : World} (h : RdQ g m bad A c W) (o : Obj) : RdQ g m bad A c (W.alloc o) := h.below ((Below.refl _ _).alloc (Nat.le_refl _) o)
theorem RdQ.drew {g : Nat} {m : List UInt8} {bad : Bool} {A : Option Addr} {c : Nat} {W : World} (h : RdQ g m bad A c W) : RdQ g m bad A c W.drew := ⟨h.blk.drew, h.rds.drew, h.cap, h.lim, h.len, h.far⟩
theorem Rds.grownB {α : Type} {size : Nat} {E : Enc α size} {w w' : World} {g : Nat} {A : Option Addr} {l : List α} (h : Rds w E A l) (hg : w.grownBy w' (some g)) (hne : ∀ a, A = some a → l ≠ [] → a.block ≠ g) : Rds w' E A l := fun hn => by
  obtain ⟨b, off, e, hb, hc⟩ := h hn
  have := hne _ e hn
  exact ⟨b, off, e, Nat.lt_of_lt_of_le hb hg.size, fun j u hu => (World.cell?_of_block (w := w) (hg.block b hb (by intro e2; injection e2 with e2; exact this e2))).trans (hc j u hu)⟩
/-- another block was turned -/
theorem RdQ.grown {g : Nat} {m : List UInt8} {bad : Bool} {A : Option Addr} {c : Nat} {W W' : World} {k : Nat} (h : RdQ g m bad A c W) (hg : W.grownBy W' (some k)) (hk : g ≠ k) (hf : ∀ a, A = some a → m ≠ [] → a.block ≠ k) : RdQ g m bad A c W' := ⟨h.blk.grown hg (by intro e; injection e with e; exact hk e), h.rds.grownB hg hf, h.cap, h.lim, h.len, h.far⟩
def nextV (m : List UInt8) (bad : Bool) : Int := if bad = true then 0 else ((m.getD 0 0).toNat : Int)
def nextM (m : List UInt8) (bad : Bool) : List UInt8 := if bad = true then m else m.drop 1
def nextBad (m : List UInt8) (bad : Bool) : Bool := bad || m.isEmpty
def GivesN (g : Nat) (m : List UInt8) (bad : Bool) (A : Option Addr) (w : World) (e : Ending) (w' : World) : Prop := ∃ (A' : Option Addr) (c' : Nat), e = .returned (.int .i64 (nextV m bad)) ∧ RdQ g (nextM m bad) (nextBad m bad) A' c' w' ∧ w.grownBy w' (some g) ∧ w'.heap.size = w.heap.size ∧ (∀ k, (∀ a, A = some a → m ≠ [] → a.block ≠ k) → ∀ a, A' = some a → nextM m bad ≠ [] → a.block ≠ k)
set_option maxRecDepth 100000 in
set_option maxHeartbeats 4000000 in
theorem rnext_any (g : Nat) (m : List UInt8) (bad : Bool) (A : Option Addr) (c : Nat) (w : World) (h : RdQ g m bad A c w) : Calls Tryd.prog 36 #[.pointer (some ⟨g, 0, none⟩)] w (GivesN g m bad A w) := by
  have HQ := Lib.hid h
  clear h
  cases bad
  · rcases m with _ | ⟨x, m⟩
    · have HN := Lib.hid (show RdQ g [] true A c (w.setCell ⟨g, 1, none⟩ (.bool true)) from ⟨HQ.out.blk.set_ 1 _, Rds.nil _ _ _, HQ.out.cap, HQ.out.lim, HQ.out.len, HQ.out.far⟩)
      have HG := Lib.hid (grownBy_setCell w g 1 (.bool true))
      have cb := HQ.out.blk.cell
      have fb := HQ.out.blk.frozen
      go_enter Tryd.func36, Tryd.ntmps36
      go_wp2_with fail
      go_ret
      exact ⟨A, c, rfl, HN.out, HG.out, by simp [World.setCell], fun k hk a ha hn => hk a ha hn⟩
    · obtain ⟨b, off, rfl, hb0, hcell⟩ := HQ.out.rds (by simp)
      have h0 : w.cell? ⟨b, off, none⟩ = some (.int .u8 x.toNat) := by have := hcell 0 (.int .u8 x.toNat) (by rw [encB_all]; rfl); simpa using this
      have hcp := HQ.out.cap
      simp only [List.length_cons] at hcp
      have hlm := HQ.out.lim
      have hx255 : (x.toNat : Int) ≤ 255 := by have := x.toNat_lt; omega
      have hw8 : IntKind.i64.wrap (x.toNat : Int) = (x.toNat : Int) := by rw [IntKind.wrap_i64]; omega
      have hl0 : (0 : Int) < (m.length : Int) + 1 := by omega
      have hz : (((m.length : Int) + 1 == 0)) = false := by rw [beq_eq_false_iff_ne]; omega
      have hdrop := HQ.out.rds.drop 1 c HQ.out.cap
      obtain ⟨A2, hA2⟩ : ∃ A2 : Option Addr, (if c = 1 then (some ⟨b, off, none⟩ : Option Addr) else some ⟨b, off + 1, none⟩) = A2 := ⟨_, rfl⟩
      have hA3 : (if c = 1 then (some (⟨b, off, none⟩ : Addr)) else (some (⟨b, off, none⟩ : Addr)).map (·.add (1 * 1))) = A2 := by rw [← hA2]; split <;> simp [add_mk]
      rw [hA3] at hdrop
      have hfb : b ≠ g := HQ.out.far _ rfl (by simp)
      have hA4 : ∀ a, A2 = some a → a.block = b := fun a ha => by rw [← hA2] at ha; split at ha <;> (injection ha with ha; rw [← ha])
      have HG := Lib.hid (grownBy_setCell w g 0 (.slice A2 m.length (c - 1)))
      have HN := Lib.hid (show RdQ g m false A2 (c - 1) (w.setCell ⟨g, 0, none⟩ (.slice A2 m.length (c - 1))) from ⟨HQ.out.blk.set_ 0 _, hdrop.grownB HG.out (fun a ha _ => by rw [hA4 a ha]; exact hfb), by omega, by omega, by have := HQ.out.len; simp only [List.length_cons] at this; omega, fun a ha _ => by rw [hA4 a ha]; exact hfb⟩)
      have HA4 := Lib.hid hA4
      have cb : ∀ i, w.cell? ⟨g, i, none⟩ = (#[.slice (some ⟨b, off, none⟩) (m.length + 1) c, .bool false] : Array Value)[i]? := HQ.out.blk.cell
      have fb := HQ.out.blk.frozen
      clear hdrop hA3 hcell hb0 hA4 hfb
      go_enter Tryd.func36, Tryd.ntmps36
      go_wp2_with fail
      try rw [hA2]
      go_ret
      exact ⟨A2, c - 1, rfl, HN.out, HG.out, by simp [World.setCell], fun k hk a ha hn => by rw [HA4.out a ha]; exact hk _ rfl (by simp)⟩
  · have HN := Lib.hid (show RdQ g m true A c (w.setCell ⟨g, 1, none⟩ (.bool true)) from ⟨HQ.out.blk.set_ 1 _, HQ.out.rds.grownB (grownBy_setCell w g 1 (.bool true)) HQ.out.far, HQ.out.cap, HQ.out.lim, HQ.out.len, HQ.out.far⟩)
    have HG := Lib.hid (grownBy_setCell w g 1 (.bool true))
    have cb := HQ.out.blk.cell
    have fb := HQ.out.blk.frozen
    go_enter Tryd.func36, Tryd.ntmps36
    go_wp2_with fail
    go_ret
    exact ⟨A, c, rfl, HN.out, HG.out, by simp [World.setCell], fun k hk a ha hn => hk a ha hn⟩
/-! the k-th byte of a list that was read from its beginning -/
theorem head_V (l : List UInt8) (k : Nat) : nextV (l.drop k) (decide (l.length < k)) = ((l.getD k 0).toNat : Int) := by
  unfold nextV
  by_cases h : l.length < k
  · rw [decide_eq_true h, if_pos rfl, List.getD_eq_getElem?_getD, List.getElem?_eq_none (by omega)]; rfl
  · rw [decide_eq_false h, if_neg (by simp)]; simp [List.getD_eq_getElem?_getD]
theorem head_M (l : List UInt8) (k : Nat) : nextM (l.drop k) (decide (l.length < k)) = l.drop (k + 1) := by
  unfold nextM
  by_cases h : l.length < k
  · rw [decide_eq_true h, if_pos rfl, List.drop_eq_nil_of_le (by omega), List.drop_eq_nil_of_le (by omega)]
  · rw [decide_eq_false h, if_neg (by simp), List.drop_drop]
theorem head_bad (l : List UInt8) (k : Nat) : nextBad (l.drop k) (decide (l.length < k)) = decide (l.length < k + 1) := by
  unfold nextBad
  by_cases h : l.length < k
  · rw [decide_eq_true h, decide_eq_true (by omega)]; rfl
  · rw [decide_eq_false h, Bool.false_or]
    by_cases h2 : l.length < k + 1
    · rw [decide_eq_true h2, List.drop_eq_nil_of_le (by omega)]; rfl
    · rw [decide_eq_false h2]
      cases e : l.drop k with
      | nil => have := congrArg List.length e; rw [List.length_drop] at this; simp at this; omega
      | cons x t => rfl
def GivesH (g : Nat) (l : List UInt8) (k : Nat) (A : Option Addr) (w : World) (e : Ending) (w' : World) : Prop := ∃ (A' : Option Addr) (c' : Nat), e = .returned (.int .i64 (l.getD k 0).toNat) ∧ RdQ g (l.drop (k + 1)) (decide (l.length < k + 1)) A' c' w' ∧ w.grownBy w' (some g) ∧ w'.heap.size = w.heap.size ∧ (∀ b, (∀ a, A = some a → l.drop k ≠ [] → a.block ≠ b) → ∀ a, A' = some a → l.drop (k + 1) ≠ [] → a.block ≠ b)
theorem nextH_any (g : Nat) (l : List UInt8) (k : Nat) (A : Option Addr) (c : Nat) (w : World) (h : RdQ g (l.drop k) (decide (l.length < k)) A c w) : Calls Tryd.prog 36 #[.pointer (some ⟨g, 0, none⟩)] w (GivesH g l k A w) :=
  (rnext_any g _ _ A c w h).mono fun e w' hh => by
    obtain ⟨A', c', h1, h2, h3, h4, h5⟩ := hh
    rw [head_V] at h1
    rw [head_M, head_bad] at h2
    rw [head_M] at h5
    exact ⟨A', c', h1, h2, h3, h4, h5⟩
/-- one entry is read, or the reader is bad -/
def EntAny (g : Nat) (m : List UInt8) (bad : Bool) (A : Option Addr) (w : World) (e : Ending) (w' : World) : Prop :=
  ∃ (z : En) (m' : List UInt8) (bad' : Bool) (A' : Option Addr) (c' : Nat), e = .returned (.agg #[.string z.pod.id, .int .i64 z.pod.prio, .bool z.pod.crit, .int .i64 z.pod.q0, .int .i64 z.pod.q1, .int .i64 z.pod.q2, .int .i64 z.pod.l0, .int .i64 z.pod.l1, .int .i64 z.pod.l2, .string z.pod.image, .int .i64 z.pod.size, .int .i64 z.phase]) ∧ RdQ g m' bad' A' c' w' ∧ w.grownBy w' (some g) ∧
    (∀ b, b < w.heap.size → (∀ a, A = some a → m ≠ [] → a.block ≠ b) → ∀ a, A' = some a → m' ≠ [] → a.block ≠ b) ∧
    ((bad' = false ∧ bad = false ∧ ∃ x m1, m = x :: m1 ∧ cutOf m1 = some (z.pod, m') ∧ z.phase = (x.toNat : Int)) ∨ (bad' = true ∧ (bad = true ∨ m = [] ∨ ∃ x m1, m = x :: m1 ∧ cutOf m1 = none)))
theorem bg_alloc (w : World) (g : Nat) (o : Obj) : w.grownBy (w.alloc o) (some g) := grown_of_below ((Below.refl _ _).alloc (Nat.le_refl _) o) _
theorem bg_step {w W W' : World} {g k : Nat} (h : w.grownBy W (some g)) (h2 : W.grownBy W' (some k)) (hk : k = g ∨ w.heap.size ≤ k) : w.grownBy W' (some g) :=
  ⟨h2.os.trans h.os, h2.tape.trans h.tape, h2.output.trans h.output, Nat.le_trans h.size h2.size, fun b hb hne => (h2.block b (Nat.lt_of_lt_of_le hb h.size) (by intro e; injection e with e; exact hk.elim (fun h3 => hne (by rw [e, h3])) (fun h3 => by omega))).trans (h.block b hb hne)⟩
theorem bg_below {w W W' : World} {g : Nat} (h : w.grownBy W (some g)) (hb : Below W.heap.size W W') : w.grownBy W' (some g) := bg_step h (grown_of_below hb (some g)) (.inl rfl)
theorem cutOf_len {l r : List UInt8} {p : Pd} (h : cutOf l = some (p, r)) : r.length ≤ l.length := by
  unfold cutOf at h
  split at h
  · cases h
  · rename_i a l1 h1
    obtain ⟨x, t, rfl, _, _, rfl⟩ := textOf_some h1
    split at h
    · cases h
    · rename_i b r2 h2
      obtain ⟨y, t2, e2, _, _, rfl⟩ := textOf_some h2
      have e3 := congrArg List.length e2
      split at h
      · split at h
        · injection h with h; injection h with _ h; rw [← h]; simp only [List.length_drop, List.length_cons] at e3 ⊢; omega
        · cases h
      · cases h
theorem infoEn : (Tryd.prog.info? 46).map (·.size) = some 12 := by kernel_rfl
set_option maxRecDepth 100000 in
set_option maxHeartbeats 8000000 in
theorem entry_any (g : Nat) (m : List UInt8) (bad : Bool) (A : Option Addr) (c : Nat) (w : World) (h : RdQ g m bad A c w) (hg : g < w.heap.size) : Calls Tryd.prog 37 #[.pointer (some ⟨g, 0, none⟩)] w (EntAny g m bad A w) := by
  have HRB := Lib.hid (Blk.new w 46 #[.string ⟨#[]⟩, .int .i64 0, .bool false, .int .i64 0, .int .i64 0, .int .i64 0, .int .i64 0, .int .i64 0, .int .i64 0, .string ⟨#[]⟩, .int .i64 0, .int .i64 0])
  have HQ := Lib.hid (h.alloc (.cells #[.string ⟨#[]⟩, .int .i64 0, .bool false, .int .i64 0, .int .i64 0, .int .i64 0, .int .i64 0, .int .i64 0, .int .i64 0, .string ⟨#[]⟩, .int .i64 0, .int .i64 0] 46))
  have HAL := Lib.hid (show ∀ a, A = some a → m ≠ [] → a.block < w.heap.size from fun a ha hn => by
    obtain ⟨b, off, e, hb, _⟩ := h.rds hn
    rw [ha] at e; injection e with e; rw [e]; exact hb)
  clear h
  go_enter Tryd.func37, Tryd.ntmps37
  cases bad
  · rcases m with _ | ⟨x, m⟩
    · go_wp2_with fail
      refine (rnext_any g _ _ A c _ HQ.out).mono ?_; rintro e w1 ⟨A1, c1, rfl, hq, hg1, hz1, hf1⟩
      have HRB := Lib.hid (HRB.out.grown hg1 (by intro e; injection e with e; omega))
      have HG := Lib.hid (bg_step (bg_alloc w g _) hg1 (.inl rfl))
      have HQ := Lib.hid (show RdQ g _ true A1 c1 w1 from hq)
      have HF := Lib.hid hf1
      clear hq hg1 hz1 hf1
      have cb := HQ.out.blk.cell
      go_wp2_with (refine wl_store_blk rfl 46 (.tmp 2) (.tmp 13) rfl w.heap.size 46 #[.string ⟨#[]⟩, .int .i64 0, .bool false, .int .i64 0, .int .i64 0, .int .i64 0, .int .i64 0, .int .i64 0, .int .i64 0, .string ⟨#[]⟩, .int .i64 0, .int .i64 0] #[.string ⟨#[]⟩, .int .i64 0, .bool false, .int .i64 0, .int .i64 0, .int .i64 0, .int .i64 0, .int .i64 0, .int .i64 0, .string ⟨#[]⟩, .int .i64 0, .int .i64 0] rfl rfl HRB.out rfl infoEn (by simp [Value.oneCell']) ?_; intro w5 hR5 hg5 hs5)
      have hl5 := hR5.cell
      have HG5 : w.grownBy w5 (some g) := bg_step HG.out hg5 (.inr (Nat.le_refl _))
      exact bodyPost_ret (v := .agg #[.string ⟨#[]⟩, .int .i64 0, .bool false, .int .i64 0, .int .i64 0, .int .i64 0, .int .i64 0, .int .i64 0, .int .i64 0, .string ⟨#[]⟩, .int .i64 0, .int .i64 0]) (by simp [results, Tryd.results37, go_sem, hl5]) rfl ⟨(⟨⟨⟨#[]⟩, 0, false, 0, 0, 0, 0, 0, 0, ⟨#[]⟩, 0⟩, 0⟩ : En), _, true, A1, c1, rfl, HQ.out.grown hg5 (by omega) (fun a ha hn => HF.out _ (fun a ha hn => by have := HAL.out a ha hn; omega) a ha hn), HG5, fun b hb hk a ha hn => HF.out b hk a ha hn, .inr ⟨rfl, .inr (.inl rfl)⟩⟩
    · go_wp2_with fail
      refine (rnext_any g _ _ A c _ HQ.out).mono ?_; rintro e w1 ⟨A1, c1, rfl, hq, hg1, hz1, hf1⟩
      have HRB := Lib.hid (HRB.out.grown hg1 (by intro e; injection e with e; omega))
      have HG := Lib.hid (bg_step (bg_alloc w g _) hg1 (.inl rfl))
      have HQ := Lib.hid (show RdQ g m false A1 c1 w1 from hq)
      have HF := Lib.hid (show ∀ k, (∀ a, A = some a → x :: m ≠ [] → a.block ≠ k) → ∀ a, A1 = some a → m ≠ [] → a.block ≠ k from hf1)
      have HGL := Lib.hid (show g < w.heap.size ∧ w.heap.size + 1 ≤ w1.heap.size from ⟨hg, by rw [hz1]; simp⟩)
      clear hq hg1 hz1 hf1
      have cb := HQ.out.blk.cell
      obtain ⟨xv, hxv⟩ : ∃ v : Int, nextV (x :: m) false = v := ⟨_, rfl⟩
      have hxv2 : (x.toNat : Int) = xv := by rw [← hxv]; simp [nextV]
      subst hxv2
      rw [hxv]
      clear hxv
      go_wp2_with fail
      refine (cut_any A1 c1 m w1 HQ.out.rds HQ.out.cap HQ.out.lim HQ.out.len).mono ?_; intro e w2 hcut
      clear cb
      rcases hcut with ⟨p, rest, hcu, ⟨A2, c2, rfl, ho⟩, hb⟩ | ⟨hcu, rfl, hb⟩
      · have HCU := Lib.hid hcu
        have HOO := Lib.hid ho
        have HOC := Lib.hid (show rest.length ≤ c2 ∧ c2 ≤ 9223372036854775807 from ho.cap.2)
        have HOF := Lib.hid (show ∀ a, A2 = some a → w1.heap.size ≤ a.block from fun a ha => by subst ha; exact (ho.block_lt _ rfl).1)
        have HLR := Lib.hid (show rest.length ≤ 140737488355328 by have := cutOf_len hcu; have h2 := HQ.out.len; omega)
        have dne : ((0 : Int) != 0) = false := rfl
        clear hcu ho
        have HRB := Lib.hid ((HRB.out.belowAll hb).alloc (.cells #[.string p.id, .int .i64 p.prio, .bool p.crit, .int .i64 p.q0, .int .i64 p.q1, .int .i64 p.q2, .int .i64 p.l0, .int .i64 p.l1, .int .i64 p.l2, .string p.image, .int .i64 p.size] 44))
        have HG := Lib.hid (bg_below (bg_below HG.out hb) ((Below.refl _ _).alloc (Nat.le_refl _) (.cells #[.string p.id, .int .i64 p.prio, .bool p.crit, .int .i64 p.q0, .int .i64 p.q1, .int .i64 p.q2, .int .i64 p.l0, .int .i64 p.l1, .int .i64 p.l2, .string p.image, .int .i64 p.size] 44)))
        have HQ := Lib.hid ((HQ.out.below hb).alloc (.cells #[.string p.id, .int .i64 p.prio, .bool p.crit, .int .i64 p.q0, .int .i64 p.q1, .int .i64 p.q2, .int .i64 p.l0, .int .i64 p.l1, .int .i64 p.l2, .string p.image, .int .i64 p.size] 44))
        have HPB := Lib.hid (Blk.new w2 44 #[.string p.id, .int .i64 p.prio, .bool p.crit, .int .i64 p.q0, .int .i64 p.q1, .int .i64 p.q2, .int .i64 p.l0, .int .i64 p.l1, .int .i64 p.l2, .string p.image, .int .i64 p.size])
        obtain ⟨v1, hv1⟩ : ∃ v, (w2.alloc (.cells #[.string p.id, .int .i64 p.prio, .bool p.crit, .int .i64 p.q0, .int .i64 p.q1, .int .i64 p.q2, .int .i64 p.l0, .int .i64 p.l1, .int .i64 p.l2, .string p.image, .int .i64 p.size] 44)).setCell ⟨g, 0, none⟩ (.slice A2 rest.length c2) = v := ⟨_, rfl⟩
        obtain ⟨v2, hv2⟩ : ∃ v, v1.setCell ⟨g, 1, none⟩ (.bool false) = v := ⟨_, rfl⟩
        have HS1 := Lib.hid (show (w2.alloc (.cells #[.string p.id, .int .i64 p.prio, .bool p.crit, .int .i64 p.q0, .int .i64 p.q1, .int .i64 p.q2, .int .i64 p.l0, .int .i64 p.l1, .int .i64 p.l2, .string p.image, .int .i64 p.size] 44)).grownBy v1 (some g) from hv1 ▸ grownBy_setCell _ g 0 _)
        have HS2 := Lib.hid (show v1.grownBy v2 (some g) from hv2 ▸ grownBy_setCell _ g 1 _)
        have hgw2 : g < w2.heap.size := by have h3 := HGL.out; have h4 := hb.size; omega
        have HB1 := Lib.hid (show Blk v1 g 68 #[.slice A2 rest.length c2, .bool false] from hv1 ▸ HQ.out.blk.set_ 0 _)
        have HB2 := Lib.hid (show Blk v2 g 68 #[.slice A2 rest.length c2, .bool false] from hv2 ▸ HB1.out.set_ 1 _)
        have cb0 := HQ.out.blk.cell
        have fb0 := HQ.out.blk.frozen
        have fb1 := HB1.out.frozen
        have cb1 := HB1.out.cell
        have HRB := Lib.hid ((HRB.out.grown HS1.out (by intro e; injection e with e; omega)).grown HS2.out (by intro e; injection e with e; omega))
        have HPB := Lib.hid ((HPB.out.grown HS1.out (by intro e; injection e with e; omega)).grown HS2.out (by intro e; injection e with e; omega))
        have HG := Lib.hid (bg_step (bg_step HG.out HS1.out (.inl rfl)) HS2.out (.inl rfl))
        have HRS := Lib.hid (show Rds v2 encB A2 rest from ((HOO.out.toRds.alloc _).grownB HS1.out (fun a ha _ => by have := HOF.out a ha; have h3 := HGL.out; omega)).grownB HS2.out (fun a ha _ => by have := HOF.out a ha; have h3 := HGL.out; omega))
        have cp2 := HPB.out.cell
        go_wp2_with (refine wl_store_blk rfl 46 (.tmp 2) (.tmp 34) rfl w.heap.size 46 #[.string ⟨#[]⟩, .int .i64 0, .bool false, .int .i64 0, .int .i64 0, .int .i64 0, .int .i64 0, .int .i64 0, .int .i64 0, .string ⟨#[]⟩, .int .i64 0, .int .i64 0] #[.string p.id, .int .i64 p.prio, .bool p.crit, .int .i64 p.q0, .int .i64 p.q1, .int .i64 p.q2, .int .i64 p.l0, .int .i64 p.l1, .int .i64 p.l2, .string p.image, .int .i64 p.size, .int .i64 x.toNat] rfl rfl HRB.out rfl infoEn (by simp [Value.oneCell']) ?_; intro w5 hR5 hg5 hs5)
        have hl5 := hR5.cell
        have HG5 : w.grownBy w5 (some g) := bg_step HG.out hg5 (.inr (Nat.le_refl _))
        exact bodyPost_ret (v := .agg #[.string p.id, .int .i64 p.prio, .bool p.crit, .int .i64 p.q0, .int .i64 p.q1, .int .i64 p.q2, .int .i64 p.l0, .int .i64 p.l1, .int .i64 p.l2, .string p.image, .int .i64 p.size, .int .i64 x.toNat]) (by simp [results, Tryd.results37, go_sem, hl5]) rfl ⟨(⟨p, x.toNat⟩ : En), rest, false, A2, c2, rfl, ⟨HB2.out.grown hg5 (by intro e; injection e with e; have h3 := HGL.out; omega), HRS.out.grownB hg5 (fun a ha _ => by have := HOF.out a ha; have h3 := HGL.out; omega), HOC.out.1, HOC.out.2, HLR.out, fun a ha _ => by have := HOF.out a ha; have h3 := HGL.out; omega⟩, HG5, fun b hb _ a ha _ => by have := HOF.out a ha; have h3 := HGL.out; omega, .inl ⟨rfl, rfl, x, m, rfl, HCU.out, rfl⟩⟩
      · have HCU := Lib.hid hcu
        have dne : ((3 : Int) != 0) = true := rfl
        clear hcu
        have HRB := Lib.hid ((HRB.out.belowAll hb).alloc (.cells #[.string ⟨#[]⟩, .int .i64 0, .bool false, .int .i64 0, .int .i64 0, .int .i64 0, .int .i64 0, .int .i64 0, .int .i64 0, .string ⟨#[]⟩, .int .i64 0] 44))
        have HG := Lib.hid (bg_below (bg_below HG.out hb) ((Below.refl _ _).alloc (Nat.le_refl _) (.cells #[.string ⟨#[]⟩, .int .i64 0, .bool false, .int .i64 0, .int .i64 0, .int .i64 0, .int .i64 0, .int .i64 0, .int .i64 0, .string ⟨#[]⟩, .int .i64 0] 44)))
        have HQ := Lib.hid ((HQ.out.below hb).alloc (.cells #[.string ⟨#[]⟩, .int .i64 0, .bool false, .int .i64 0, .int .i64 0, .int .i64 0, .int .i64 0, .int .i64 0, .int .i64 0, .string ⟨#[]⟩, .int .i64 0] 44))
        have HPB := Lib.hid (Blk.new w2 44 #[.string ⟨#[]⟩, .int .i64 0, .bool false, .int .i64 0, .int .i64 0, .int .i64 0, .int .i64 0, .int .i64 0, .int .i64 0, .string ⟨#[]⟩, .int .i64 0])
        obtain ⟨v1, hv1⟩ : ∃ v, (w2.alloc (.cells #[.string ⟨#[]⟩, .int .i64 0, .bool false, .int .i64 0, .int .i64 0, .int .i64 0, .int .i64 0, .int .i64 0, .int .i64 0, .string ⟨#[]⟩, .int .i64 0] 44)).setCell ⟨g, 0, none⟩ (.slice none 0 0) = v := ⟨_, rfl⟩
        obtain ⟨v2, hv2⟩ : ∃ v, v1.setCell ⟨g, 1, none⟩ (.bool true) = v := ⟨_, rfl⟩
        have HS1 := Lib.hid (show (w2.alloc (.cells #[.string ⟨#[]⟩, .int .i64 0, .bool false, .int .i64 0, .int .i64 0, .int .i64 0, .int .i64 0, .int .i64 0, .int .i64 0, .string ⟨#[]⟩, .int .i64 0] 44)).grownBy v1 (some g) from hv1 ▸ grownBy_setCell _ g 0 _)
        have HS2 := Lib.hid (show v1.grownBy v2 (some g) from hv2 ▸ grownBy_setCell _ g 1 _)
        have hgw2 : g < w2.heap.size := by have h3 := HGL.out; have h4 := hb.size; omega
        have HB1 := Lib.hid (show Blk v1 g 68 #[.slice none 0 0, .bool false] from hv1 ▸ HQ.out.blk.set_ 0 _)
        have HB2 := Lib.hid (show Blk v2 g 68 #[.slice none 0 0, .bool true] from hv2 ▸ HB1.out.set_ 1 _)
        have cb0 := HQ.out.blk.cell
        have fb0 := HQ.out.blk.frozen
        have fb1 := HB1.out.frozen
        have cb1 := HB1.out.cell
        have HRB := Lib.hid ((HRB.out.grown HS1.out (by intro e; injection e with e; omega)).grown HS2.out (by intro e; injection e with e; omega))
        have HPB := Lib.hid ((HPB.out.grown HS1.out (by intro e; injection e with e; omega)).grown HS2.out (by intro e; injection e with e; omega))
        have HG := Lib.hid (bg_step (bg_step HG.out HS1.out (.inl rfl)) HS2.out (.inl rfl))
        have cp2 := HPB.out.cell
        go_wp2_with (refine wl_store_blk rfl 46 (.tmp 2) (.tmp 34) rfl w.heap.size 46 #[.string ⟨#[]⟩, .int .i64 0, .bool false, .int .i64 0, .int .i64 0, .int .i64 0, .int .i64 0, .int .i64 0, .int .i64 0, .string ⟨#[]⟩, .int .i64 0, .int .i64 0] #[.string ⟨#[]⟩, .int .i64 0, .bool false, .int .i64 0, .int .i64 0, .int .i64 0, .int .i64 0, .int .i64 0, .int .i64 0, .string ⟨#[]⟩, .int .i64 0, .int .i64 x.toNat] rfl rfl HRB.out rfl infoEn (by simp [Value.oneCell']) ?_; intro w5 hR5 hg5 hs5)
        have hl5 := hR5.cell
        have HG5 : w.grownBy w5 (some g) := bg_step HG.out hg5 (.inr (Nat.le_refl _))
        exact bodyPost_ret (v := .agg #[.string ⟨#[]⟩, .int .i64 0, .bool false, .int .i64 0, .int .i64 0, .int .i64 0, .int .i64 0, .int .i64 0, .int .i64 0, .string ⟨#[]⟩, .int .i64 0, .int .i64 x.toNat]) (by simp [results, Tryd.results37, go_sem, hl5]) rfl ⟨(⟨⟨⟨#[]⟩, 0, false, 0, 0, 0, 0, 0, 0, ⟨#[]⟩, 0⟩, x.toNat⟩ : En), [], true, none, 0, rfl, ⟨HB2.out.grown hg5 (by intro e; injection e with e; have h3 := HGL.out; omega), Rds.nil _ _ _, Nat.le_refl _, by omega, by simp, fun a ha => (by cases ha)⟩, HG5, fun b hb _ a ha => (by cases ha), .inr ⟨rfl, .inr (.inr ⟨x, m, rfl, HCU.out⟩)⟩⟩
  · go_wp2_with fail
    refine (rnext_any g _ _ A c _ HQ.out).mono ?_; rintro e w1 ⟨A1, c1, rfl, hq, hg1, hz1, hf1⟩
    have HRB := Lib.hid (HRB.out.grown hg1 (by intro e; injection e with e; omega))
    have HG := Lib.hid (bg_step (bg_alloc w g _) hg1 (.inl rfl))
    have HQ := Lib.hid (show RdQ g _ true A1 c1 w1 from hq)
    have HF := Lib.hid hf1
    clear hq hg1 hz1 hf1
    have cb := HQ.out.blk.cell
    go_wp2_with (refine wl_store_blk rfl 46 (.tmp 2) (.tmp 13) rfl w.heap.size 46 #[.string ⟨#[]⟩, .int .i64 0, .bool false, .int .i64 0, .int .i64 0, .int .i64 0, .int .i64 0, .int .i64 0, .int .i64 0, .string ⟨#[]⟩, .int .i64 0, .int .i64 0] #[.string ⟨#[]⟩, .int .i64 0, .bool false, .int .i64 0, .int .i64 0, .int .i64 0, .int .i64 0, .int .i64 0, .int .i64 0, .string ⟨#[]⟩, .int .i64 0, .int .i64 0] rfl rfl HRB.out rfl infoEn (by simp [Value.oneCell']) ?_; intro w5 hR5 hg5 hs5)
    have hl5 := hR5.cell
    have HG5 : w.grownBy w5 (some g) := bg_step HG.out hg5 (.inr (Nat.le_refl _))
    exact bodyPost_ret (v := .agg #[.string ⟨#[]⟩, .int .i64 0, .bool false, .int .i64 0, .int .i64 0, .int .i64 0, .int .i64 0, .int .i64 0, .int .i64 0, .string ⟨#[]⟩, .int .i64 0, .int .i64 0]) (by simp [results, Tryd.results37, go_sem, hl5]) rfl ⟨(⟨⟨⟨#[]⟩, 0, false, 0, 0, 0, 0, 0, 0, ⟨#[]⟩, 0⟩, 0⟩ : En), _, true, A1, c1, rfl, HQ.out.grown hg5 (by omega) (fun a ha hn => HF.out _ (fun a ha hn => by have := HAL.out a ha hn; omega) a ha hn), HG5, fun b hb hk a ha hn => HF.out b hk a ha hn, .inr ⟨rfl, .inl rfl⟩⟩
end Go.Proofs.YtakgblgbfbpmoaaDoor

namespace Go.Proofs.YtakgblgbfbpmoaaDoor
open Go.RowKit

theorem wordTo_getD (n : Int) (t : List UInt8) : ∀ (k j : Nat), j < k → (wordTo n k ++ t).getD j 0 = byteAt n (k - 1 - j)
  | k + 1, 0, _ => by simp [wordTo]
  | k + 1, j + 1, h => by
    have := wordTo_getD n t k j (by omega)
    simp only [wordTo, List.cons_append, List.getD_cons_succ, this]
    congr 1
    omega
theorem be_step (a N : Int) (hN : 0 < N) : 256 * ((a / 256) % N) + a % 256 = a % (N * 256) := by
  have h1 := Int.emod_nonneg (a / 256) (Int.ne_of_gt hN)
  have h2 := Int.emod_lt_of_pos (a / 256) hN
  have h3 := Int.emod_nonneg a (show (256 : Int) ≠ 0 by decide)
  have h4 := Int.emod_lt_of_pos a (show (0 : Int) < 256 by decide)
  have e1 := Int.mul_ediv_add_emod a 256
  have e2 := Int.mul_ediv_add_emod (a / 256) N
  generalize (a / 256) % N = r at *
  generalize (a / 256) / N = q at *
  generalize a % 256 = s at *
  have e3 : a = (256 * r + s) + N * 256 * q := by
    rw [← e1, ← e2, Int.mul_add, ← Int.mul_assoc, Int.mul_comm 256 N]
    omega
  rw [e3, Int.add_mul_emod_self_left, Int.emod_eq_of_lt (by omega) (by omega)]
theorem beTo_word (n : Int) (t : List UInt8) (k : Nat) : ∀ j, j ≤ k → beTo (wordTo n k ++ t) j = (n / (256 ^ (k - j) : Int)) % (256 ^ j : Int)
  | 0, _ => by simp [beTo, Int.emod_one]
  | j + 1, h => by
    have ih := beTo_word n t k j (by omega)
    rw [beTo, wordTo_getD n t k j (by omega), byteAt_nat, ih]
    have e : k - j = (k - (j + 1)) + 1 := by omega
    have e2 : k - 1 - j = k - (j + 1) := by omega
    rw [e, e2, Int.pow_succ, ← Int.ediv_ediv_of_nonneg (by exact Int.le_of_lt (Int.pow_pos (by decide))), be_step _ _ (Int.pow_pos (by decide)), ← Int.pow_succ]
theorem beTo_word8 (n : Int) (h : I64 n) (t : List UInt8) : IntKind.i64.wrap (beTo (word n ++ t) 8) = n := by
  unfold word
  rw [beTo_word n t 8 8 (Nat.le_refl 8), IntKind.wrap_i64]
  unfold I64 at h
  simp
  omega

theorem textOf_text (s : ByteArray) (t : List UInt8) (h : s.size ≤ 255) : textOf (textB s ++ t) = some (s.data.toList, t) := by
  have hl : s.data.toList.length = s.size := rfl
  have hn : (UInt8.ofNat s.size).toNat = s.data.toList.length := by rw [UInt8.toNat_ofNat', hl]; omega
  unfold textB
  rw [List.cons_append]
  simp only [textOf]
  rw [hn, if_pos (by rw [List.length_append]; omega), List.take_left, List.drop_left]
theorem str_self (s : ByteArray) : str s.data.toList = s := rfl
theorem numsTo_drop (p : Pd) : ∀ (m k : Nat) (t : List UInt8), k < m → ∃ u, (p.numsTo m ++ t).drop (8 * k) = word (p.nm k) ++ u
  | m + 1, k, t, h => by
    rw [Pd.numsTo, List.append_assoc]
    by_cases hk : k < m
    · exact numsTo_drop p m k _ hk
    · obtain rfl : k = m := by omega
      exact ⟨t, List.drop_left' (p.numsTo_len k)⟩
theorem accN_nums (p : Pd) (t : List UInt8) (k : Nat) (hk : k < 8) (h : I64 (p.nm k)) : accN (p.numsTo 8 ++ t) k 8 = p.nm k := by
  obtain ⟨u, hu⟩ := numsTo_drop p 8 k t hk
  unfold accN
  rw [hu, beTo_word8 _ h]
theorem cutPd_nums (p : Pd) (hp : p.Wf) (hr : p.right = true) (more : List UInt8) :
    cutPd p.id p.image (p.numsTo 8 ++ (critB p.crit :: more)) = p ∧ ((p.numsTo 8 ++ (critB p.crit :: more)).getD 64 0) = critB p.crit ∧ accN (p.numsTo 8 ++ (critB p.crit :: more)) 0 8 = p.prio + 1073741824 := by
  obtain ⟨h1, h2, _⟩ := p.right_prio hr
  have hl := p.numsTo_len 8
  have hg : (p.numsTo 8 ++ (critB p.crit :: more)).getD 64 0 = critB p.crit := by
    rw [List.getD_eq_getElem?_getD, List.getElem?_append_right (by omega), hl]
    rfl
  have a0 := accN_nums p (critB p.crit :: more) 0 (by omega) (by show I64 (p.prio + 1073741824); unfold I64; omega)
  have a1 := accN_nums p (critB p.crit :: more) 1 (by omega) hp.size
  have a2 := accN_nums p (critB p.crit :: more) 2 (by omega) hp.q0
  have a3 := accN_nums p (critB p.crit :: more) 3 (by omega) hp.q1
  have a4 := accN_nums p (critB p.crit :: more) 4 (by omega) hp.q2
  have a5 := accN_nums p (critB p.crit :: more) 5 (by omega) hp.l0
  have a6 := accN_nums p (critB p.crit :: more) 6 (by omega) hp.l1
  have a7 := accN_nums p (critB p.crit :: more) 7 (by omega) hp.l2
  refine ⟨?_, hg, a0⟩
  unfold cutPd cutPdY
  rw [hg, a0, a1, a2, a3, a4, a5, a6, a7]
  have hc : (((critB p.crit).toNat : Int) == 1) = p.crit := by cases p.crit <;> rfl
  rw [hc]
  obtain ⟨id, pr, cr, q0, q1, q2, l0, l1, l2, im, sz⟩ := p
  simp [Pd.nm]
theorem cut_bytes (p : Pd) (hp : p.Wf) (hr : p.right = true) (more : List UInt8) : cutOf (p.bytes ++ more) = some (p, more) := by
  obtain ⟨hs0, hs1⟩ := p.right_named hr
  obtain ⟨h1, h2, _⟩ := p.right_prio hr
  obtain ⟨e1, e2, e3⟩ := cutPd_nums p hp hr more
  have hl := p.numsTo_len 8
  have eb : p.bytes ++ more = textB p.id ++ (textB p.image ++ (p.numsTo 8 ++ (critB p.crit :: more))) := by
    unfold Pd.bytes
    simp
  have hk : cutOk p.id p.image (p.numsTo 8 ++ (critB p.crit :: more)) = true := by
    unfold cutOk notWide
    rw [e1, e2, e3, hr]
    have : (critB p.crit).toNat ≤ 1 := by cases p.crit <;> decide
    simp only [Bool.and_eq_true, decide_eq_true_eq, Bool.and_true]
    omega
  unfold cutOf
  rw [eb, textOf_text _ _ (by omega)]
  simp only
  rw [textOf_text _ _ (by omega)]
  simp only
  rw [str_self, str_self, if_pos (by rw [List.length_append, hl, List.length_cons]; omega), if_pos hk, e1]
  have hd : (p.numsTo 8 ++ (critB p.crit :: more)).drop 65 = more := by
    rw [List.drop_append, hl, List.drop_of_length_le (by rw [hl]; omega)]
    rfl
  rw [hd]
/-- right pods of which one's bytes begin the other's are one -/
theorem bytes_begin (p q : Pd) (hp : p.Wf) (hq : q.Wf) (hpr : p.right = true) (hqr : q.right = true) (t : List UInt8) (h : q.bytes = p.bytes ++ t) : p = q := by
  have h1 := cut_bytes p hp hpr t
  have h2 := cut_bytes q hq hqr []
  rw [List.append_nil, h, h1] at h2
  injection h2 with h2
  injection h2
end Go.Proofs.YtakgblgbfbpmoaaDoor

namespace Go.Proofs.YtakgblgbfbpmoaaDoor
open Go.RowKit

theorem textOf_more {l a r : List UInt8} (t : List UInt8) (h : textOf l = some (a, r)) : textOf (l ++ t) = some (a, r ++ t) := by
  obtain ⟨x, l1, rfl, hx, rfl, rfl⟩ := textOf_some h
  rw [List.cons_append]
  simp only [textOf]
  rw [if_pos (by rw [List.length_append]; omega), List.take_append_of_le_length hx, List.drop_append_of_le_length hx]
theorem beTo_more (l t : List UInt8) : ∀ j, j ≤ l.length → beTo (l ++ t) j = beTo l j
  | 0, _ => rfl
  | j + 1, h => by
    rw [beTo, beTo, beTo_more l t j (by omega), List.getD_eq_getElem?_getD, List.getD_eq_getElem?_getD, List.getElem?_append_left (by omega)]
theorem accN_more (r t : List UInt8) (k : Nat) (h : 8 * k + 8 ≤ r.length) : accN (r ++ t) k 8 = accN r k 8 := by
  unfold accN
  rw [List.drop_append_of_le_length (by omega), beTo_more _ _ _ (by rw [List.length_drop]; omega)]
theorem cutPd_more (a b : ByteArray) (r t : List UInt8) (h : 64 < r.length) : cutPd a b (r ++ t) = cutPd a b r ∧ cutOk a b (r ++ t) = cutOk a b r := by
  have hg : (r ++ t).getD 64 0 = r.getD 64 0 := by rw [List.getD_eq_getElem?_getD, List.getD_eq_getElem?_getD, List.getElem?_append_left (by omega)]
  have e : cutPd a b (r ++ t) = cutPd a b r := by
    unfold cutPd cutPdY
    rw [hg, accN_more r t 0 (by omega), accN_more r t 1 (by omega), accN_more r t 2 (by omega), accN_more r t 3 (by omega), accN_more r t 4 (by omega), accN_more r t 5 (by omega), accN_more r t 6 (by omega), accN_more r t 7 (by omega)]
  refine ⟨e, ?_⟩
  unfold cutOk notWide
  rw [hg, e, accN_more r t 0 (by omega)]
theorem cut_more {l rest : List UInt8} {p : Pd} (t : List UInt8) (h : cutOf l = some (p, rest)) : cutOf (l ++ t) = some (p, rest ++ t) := by
  unfold cutOf at h ⊢
  cases h1 : textOf l with
  | none => rw [h1] at h; cases h
  | some q1 =>
    obtain ⟨a, l1⟩ := q1
    rw [h1] at h
    simp only at h
    cases h2 : textOf l1 with
    | none => rw [h2] at h; cases h
    | some q2 =>
      obtain ⟨b, r⟩ := q2
      rw [h2] at h
      simp only at h
      by_cases h3 : 64 < r.length
      · rw [if_pos h3] at h
        by_cases h4 : cutOk (str a) (str b) r = true
        · rw [if_pos h4] at h
          injection h with h
          injection h with e1 e2
          obtain ⟨g1, g2⟩ := cutPd_more (str a) (str b) r t h3
          rw [textOf_more t h1]
          simp only
          rw [textOf_more t h2]
          simp only
          rw [if_pos (by rw [List.length_append]; omega), g2, if_pos h4, g1, List.drop_append_of_le_length (by omega), e1, e2]
        · rw [if_neg h4] at h; cases h
      · rw [if_neg h3] at h; cases h
/-- no true beginning of a right pod's bytes is cut -/
theorem cut_begin (p : Pd) (hp : p.Wf) (hr : p.right = true) (n : Nat) (hn : n < p.bytes.length) : cutOf (p.bytes.take n) = none := by
  cases h : cutOf (p.bytes.take n) with
  | none => rfl
  | some x =>
    obtain ⟨q, rest⟩ := x
    have h2 := cut_more (p.bytes.drop n) h
    have h3 := cut_bytes p hp hr []
    rw [List.append_nil] at h3
    rw [List.take_append_drop, h3] at h2
    injection h2 with h2
    injection h2 with _ e
    have := congrArg List.length e
    rw [List.length_append, List.length_drop, List.length_nil] at this
    omega
end Go.Proofs.YtakgblgbfbpmoaaDoor
