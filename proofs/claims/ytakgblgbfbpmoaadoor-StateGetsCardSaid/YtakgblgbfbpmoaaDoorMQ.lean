/- Several texts in one: state.Get: what bytes tell. -/
import Derived.Test.YtakgblgbfbpmoaaDoorMO
import Derived.Test.YtakgblgbfbpmoaaDoorMP
namespace Go.Proofs.YtakgblgbfbpmoaaDoor
open Go.RowKit

theorem cutOf_wf {l r : List UInt8} {p : Pd} (h : cutOf l = some (p, r)) : p.Wf := (cut_put h).1
def entsD : Nat → List UInt8 → Option (List En × List UInt8)
  | 0, m => some ([], m)
  | _ + 1, [] => none
  | k + 1, x :: m => match cutOf m with
    | none => none
    | some (p, r) => match entsD k r with
      | none => none
      | some (es, r') => some (⟨p, (x.toNat : Int)⟩ :: es, r')
theorem entsD_bad {k : Nat} {m : List UInt8} (h : m = [] ∨ ∃ x m1, m = x :: m1 ∧ cutOf m1 = none) : entsD (k + 1) m = none := by
  rcases h with rfl | ⟨x, m1, rfl, h⟩
  · rfl
  · simp only [entsD, h]
theorem entsD_go {k : Nat} {x : UInt8} {m1 r : List UInt8} {z : En} (hc : cutOf m1 = some (z.pod, r)) (hz : z.phase = (x.toNat : Int)) : entsD (k + 1) (x :: m1) = (entsD k r).map fun q => (z :: q.1, q.2) := by
  simp only [entsD, hc]
  cases entsD k r with
  | none => rfl
  | some q => obtain ⟨es, r'⟩ := q; simp only [Option.map_some]; rw [← hz]
def bitD (y : UInt8) (i : Nat) : Bool := y.toNat / 2 ^ i % 2 == 1
/-- what bytes tell, where they are a state's -/
structure GotD (l : List UInt8) (rd : Int) (o0 o1 o2 : Bool) (es : List En) : Prop where
  len : 10 ≤ l.length
  er : rd = IntKind.i64.wrap (beTo l 8)
  e0 : o0 = bitD (l.getD 8 0) 0
  e1 : o1 = bitD (l.getD 8 0) 1
  e2 : o2 = bitD (l.getD 8 0) 2
  on : (l.getD 8 0).toNat < 8
  ents : entsD (min (l.getD 9 0).toNat 65) (l.drop 10) = some (es, [])
  rt : RightS rd es
theorem wrap_eq (x : Int) : IntKind.i64.wrap x = wrap64 x := by rw [IntKind.wrap_i64]; unfold wrap64; omega
theorem or_stepW (l : List UInt8) (k : Nat) : bits .or .i64 (wrap64 (wrap64 (beTo l k) * 256)) ((l.getD k 0).toNat : Int) = wrap64 (beTo l (k + 1)) := by
  have h := or_step (beTo l k) (l.getD k 0).toNat (by have := (l.getD k 0).toNat_lt; omega)
  rw [wrap_eq, wrap_eq] at h
  exact h
theorem and_one (n : Nat) (h : n < 256) : bits .and .i64 (n : Int) 1 = ((n % 2 : Nat) : Int) := by
  have key : ∀ k : Fin 256, bits .and .i64 (k.val : Int) 1 = ((k.val % 2 : Nat) : Int) := by decide +kernel
  exact key ⟨n, h⟩
theorem bit_0 (y : UInt8) : (bits BinOp.and IntKind.i64 (y.toNat : Int) 1 == 1) = bitD y 0 := by
  have hy := y.toNat_lt
  rw [and_one _ (by omega)]
  unfold bitD
  rw [Bool.eq_iff_iff]; simp; omega
theorem bit_1 (y : UInt8) : (bits BinOp.and IntKind.i64 ((y.toNat : Int) / 2) 1 == 1) = bitD y 1 := by
  have hy := y.toNat_lt
  rw [show (y.toNat : Int) / 2 = ((y.toNat / 2 : Nat) : Int) by omega, and_one _ (by omega)]
  unfold bitD
  rw [Bool.eq_iff_iff]; simp; omega
theorem bit_2 (y : UInt8) : (bits BinOp.and IntKind.i64 ((y.toNat : Int) / 4) 1 == 1) = bitD y 2 := by
  have hy := y.toNat_lt
  rw [show (y.toNat : Int) / 4 = ((y.toNat / 4 : Nat) : Int) by omega, and_one _ (by omega)]
  unfold bitD
  rw [Bool.eq_iff_iff]; simp; omega
/-- what was read so far -/
def GotTo (G : Option (List En × List UInt8)) (N i : Nat) (ES : List En) (m : List UInt8) (bad : Bool) : Prop :=
  (bad = false ∧ (∀ x ∈ ES, x.pod.Wf) ∧ G = (entsD (N - i) m).map fun q => (ES ++ q.1, q.2)) ∨ (bad = true ∧ G = none)
theorem GotTo.bad_none {G : Option (List En × List UInt8)} {N i : Nat} {ES : List En} {m : List UInt8} (h : GotTo G N i ES m true) : G = none := by
  rcases h with ⟨h, _⟩ | ⟨_, h⟩
  · cases h
  · exact h
theorem GotTo.good_end {G : Option (List En × List UInt8)} {N : Nat} {ES : List En} {m : List UInt8} (h : GotTo G N N ES m false) : G = some (ES, m) ∧ ∀ x ∈ ES, x.pod.Wf := by
  rcases h with ⟨_, h2, h⟩ | ⟨h, _⟩
  · refine ⟨?_, h2⟩
    rw [h, Nat.sub_self]; simp [entsD]
  · cases h
theorem GotNext {G : Option (List En × List UInt8)} {N i : Nat} {ES : List En} {m m' : List UInt8} {bad' : Bool} {z : En} (h : GotTo G N i ES m false) (hc : (bad' = false ∧ false = false ∧ ∃ x m1, m = x :: m1 ∧ cutOf m1 = some (z.pod, m') ∧ z.phase = (x.toNat : Int)) ∨ (bad' = true ∧ (false = true ∨ m = [] ∨ ∃ x m1, m = x :: m1 ∧ cutOf m1 = none))) (hi : i < N) : GotTo G N (i + 1) (ES ++ [z]) m' bad' := by
  obtain ⟨k, hk⟩ : ∃ k, N - i = k + 1 := ⟨N - i - 1, by omega⟩
  have hk2 : N - (i + 1) = k := by omega
  rcases h with ⟨_, hw, h⟩ | ⟨h, _⟩
  · rw [hk] at h
    rcases hc with ⟨h1, _, x, m1, rfl, h2, h3⟩ | ⟨h1, h2⟩
    · refine .inl ⟨h1, fun y hy => ?_, ?_⟩
      · rcases List.mem_append.1 hy with hy | hy
        · exact hw y hy
        · rw [List.mem_singleton.1 hy]; exact cutOf_wf h2
      · rw [h, entsD_go h2 h3, hk2, Option.map_map]
        congr 1
        funext q
        simp
    · refine .inr ⟨h1, ?_⟩
      have h4 : m = [] ∨ ∃ x m1, m = x :: m1 ∧ cutOf m1 = none := h2.resolve_left (by simp)
      rw [h, entsD_bad h4]; rfl
  · cases h
structure GtQ (z : Int) (A1 : Option Addr) (n1 c1 : Nat) (o0 o1 o2 : Bool) (m : List UInt8) (bad : Bool) (A : Option Addr) (c : Nat) (w W : World) : Prop where
  rb : Blk W w.heap.size 25 #[.int .i64 0, .slice none 0 0, .bool false, .bool false, .bool false]
  sb : Blk W (w.heap.size + 1 + 1) 25 #[.int .i64 z, .slice A1 n1 c1, .bool o0, .bool o1, .bool o2]
  rq : RdQ (w.heap.size + 1) m bad A c W
  f0 : ∀ a, A = some a → m ≠ [] → a.block ≠ w.heap.size
  f1 : ∀ a, A = some a → m ≠ [] → a.block ≠ (w.heap.size + 1 + 1)
  bel : Below w.heap.size w W
section
variable {z z' : Int} {A1 : Option Addr} {n1 c1 : Nat} {o0 o1 o2 : Bool} {m m' : List UInt8} {bad bad' : Bool} {A A' : Option Addr} {c c' : Nat} {w W W' : World}
theorem GtQ.drew (h : GtQ z A1 n1 c1 o0 o1 o2 m bad A c w W) : GtQ z A1 n1 c1 o0 o1 o2 m bad A c w W.drew := ⟨h.rb.drew, h.sb.drew, h.rq.drew, h.f0, h.f1, h.bel.drew⟩
theorem GtQ.below (h : GtQ z A1 n1 c1 o0 o1 o2 m bad A c w W) (hb : Below W.heap.size W W') : GtQ z A1 n1 c1 o0 o1 o2 m bad A c w W' := ⟨h.rb.belowAll hb, h.sb.belowAll hb, h.rq.below hb, h.f0, h.f1, h.bel.trans (hb.mono h.bel.size)⟩
theorem GtQ.next (h : GtQ z A1 n1 c1 o0 o1 o2 m bad A c w W) (hr : RdQ (w.heap.size + 1) m' bad' A' c' W') (hg : W.grownBy W' (some (w.heap.size + 1))) (h0 : ∀ a, A' = some a → m' ≠ [] → a.block ≠ w.heap.size) (h1 : ∀ a, A' = some a → m' ≠ [] → a.block ≠ (w.heap.size + 1 + 1)) : GtQ z A1 n1 c1 o0 o1 o2 m' bad' A' c' w W' :=
  ⟨h.rb.grown hg (by intro e; injection e with e; omega), h.sb.grown hg (by intro e; injection e with e; omega), hr, h0, h1, h.bel.grown hg h.bel.size (by intro k hk; injection hk with hk; omega)⟩
theorem Rds.grownR {α : Type} {size : Nat} {E : Enc α size} {w w' : World} {row : Option Nat} {A : Option Addr} {l : List α} (h : Rds w E A l) (hg : w.grownBy w' row) (hne : ∀ a, A = some a → l ≠ [] → some a.block ≠ row) : Rds w' E A l := fun hn => by
  obtain ⟨b, off, e, hb, hc⟩ := h hn
  have := hne _ e hn
  exact ⟨b, off, e, Nat.lt_of_lt_of_le hb hg.size, fun j u hu => (World.cell?_of_block (w := w) (hg.block b hb this)).trans (hc j u hu)⟩
/-- a row of one's own grew -/
theorem GtQ.app (h : GtQ z A1 n1 c1 o0 o1 o2 m bad A c w W) {row : Option Nat} (hg : W.grownBy W' row) (h0 : ∀ k, row = some k → (w.heap.size + 1 + 1) < k ∧ ∀ a, A = some a → m ≠ [] → a.block ≠ k) : GtQ z A1 n1 c1 o0 o1 o2 m bad A c w W' :=
  ⟨h.rb.grown hg (by intro e; have := (h0 _ e.symm).1; omega), h.sb.grown hg (by intro e; have := (h0 _ e.symm).1; omega),
   ⟨h.rq.blk.grown hg (by intro e; have := (h0 _ e.symm).1; omega), h.rq.rds.grownR hg (fun a ha hn e => (h0 _ e.symm).2 a ha hn rfl), h.rq.cap, h.rq.lim, h.rq.len, h.rq.far⟩,
   h.f0, h.f1, h.bel.grown hg h.bel.size (by intro k hk; have := (h0 _ hk).1; omega)⟩
/-- a cell of the state under way is turned -/
theorem GtQ.set (h : GtQ z A1 n1 c1 o0 o1 o2 m bad A c w W) {A2 : Option Addr} {n2 c2 : Nat} {p0 p1 p2 : Bool} (i : Nat) (u : Value) (hs : (#[.int .i64 z, .slice A1 n1 c1, .bool o0, .bool o1, .bool o2] : Array Value).setIfInBounds i u = #[.int .i64 z', .slice A2 n2 c2, .bool p0, .bool p1, .bool p2]) : GtQ z' A2 n2 c2 p0 p1 p2 m bad A c w (W.setCell ⟨(w.heap.size + 1 + 1), i, none⟩ u) := by
  have hg := grownBy_setCell W (w.heap.size + 1 + 1) i u
  exact ⟨h.rb.grown hg (by intro e; injection e with e; omega), hs ▸ h.sb.set_ i u, h.rq.grown hg (by omega) h.f1, h.f0, h.f1, h.bel.grown hg h.bel.size (by intro k hk; injection hk with hk; omega)⟩
end
theorem nogot_none {l : List UInt8} {NN : Nat} (hN : min (l.getD 9 0).toNat 65 = NN) (hG : (if 10 ≤ l.length then entsD NN (l.drop 10) else none) = none) : ∀ rd o0 o1 o2 es, ¬ GotD l rd o0 o1 o2 es := fun rd o0 o1 o2 es h => by
  rw [if_pos h.len, ← hN, h.ents] at hG; cases hG
theorem nogot_rest {l r : List UInt8} {NN : Nat} {ES : List En} (hN : min (l.getD 9 0).toNat 65 = NN) (hG : (if 10 ≤ l.length then entsD NN (l.drop 10) else none) = some (ES, r)) (hr : r ≠ []) : ∀ rd o0 o1 o2 es, ¬ GotD l rd o0 o1 o2 es := fun rd o0 o1 o2 es h => by
  rw [if_pos h.len, ← hN, h.ents] at hG; injection hG with hG; injection hG with _ hG; exact hr hG.symm
theorem nogot_right {l r : List UInt8} {NN : Nat} {ES : List En} (hN : min (l.getD 9 0).toNat 65 = NN) (hG : (if 10 ≤ l.length then entsD NN (l.drop 10) else none) = some (ES, r)) (hr : ¬ RightS (wrap64 (beTo l 8)) ES) : ∀ rd o0 o1 o2 es, ¬ GotD l rd o0 o1 o2 es := fun rd o0 o1 o2 es h => by
  rw [if_pos h.len, ← hN, h.ents] at hG; injection hG with hG; injection hG with hG _
  have h1 := h.rt
  have h2 := h.er
  rw [wrap_eq] at h2
  rw [h2, hG] at h1
  exact hr h1
theorem got_yes {l : List UInt8} {NN : Nat} {ES : List En} (hN : min (l.getD 9 0).toNat 65 = NN) (hG : (if 10 ≤ l.length then entsD NN (l.drop 10) else none) = some (ES, [])) (hr : RightS (wrap64 (beTo l 8)) ES) (hy : (l.getD 8 0).toNat < 8) : GotD l (wrap64 (beTo l 8)) (bitD (l.getD 8 0) 0) (bitD (l.getD 8 0) 1) (bitD (l.getD 8 0) 2) ES := by
  have hl : 10 ≤ l.length := by
    by_cases h : 10 ≤ l.length
    · exact h
    · rw [if_neg h] at hG; cases hG
  rw [if_pos hl] at hG
  exact ⟨hl, (wrap_eq _).symm, rfl, rfl, rfl, hy, by rw [hN]; exact hG, hr⟩
def GetPost (l : List UInt8) (w : World) (e : Ending) (w' : World) : Prop :=
  (∃ (rd : Int) (o0 o1 o2 : Bool) (es : List En) (A : Option Addr) (c : Nat), GotD l rd o0 o1 o2 es ∧ e = .returned (.tuple #[.agg #[.int .i64 rd, .slice A es.length c, .bool o0, .bool o1, .bool o2], .int .i64 0]) ∧ Own w' w.heap.size 46 encN (.slice A es.length c) es ∧ Below w.heap.size w w') ∨
  ((∀ rd o0 o1 o2 es, ¬ GotD l rd o0 o1 o2 es) ∧ e = .returned (.tuple #[.agg #[.int .i64 0, .slice none 0 0, .bool false, .bool false, .bool false], .int .i64 3]) ∧ Below w.heap.size w w')
set_option maxRecDepth 100000 in
set_option maxHeartbeats 16000000 in
theorem get24_any (l : List UInt8) (A : Option Addr) (c : Nat) (w : World) (hr : Rds w encB A l) (hc : l.length ≤ c) (hm : c ≤ 9223372036854775807) (hbd : l.length ≤ 140737488355328) :
    Calls Tryd.prog 18 #[.slice A l.length c] w (GetPost l w) := by
  have mixed : Tryd.prog.follows Departure.mixedOrders = true := by kernel_rfl
  have HQ : Hid (GtQ 0 none 0 0 false false false l false A c w (((w.alloc (.cells #[.int .i64 0, .slice none 0 0, .bool false, .bool false, .bool false] 25)).alloc (.cells #[.slice A l.length c, .bool false] 68)).alloc (.cells #[.int .i64 0, .slice none 0 0, .bool false, .bool false, .bool false] 25))) := by
    have z1 : (w.alloc (.cells #[.int .i64 0, .slice none 0 0, .bool false, .bool false, .bool false] 25)).heap.size = w.heap.size + 1 := by simp
    have z2 : ((w.alloc (.cells #[.int .i64 0, .slice none 0 0, .bool false, .bool false, .bool false] 25)).alloc (.cells #[.slice A l.length c, .bool false] 68)).heap.size = w.heap.size + 1 + 1 := by simp
    have b0 := Blk.new w 25 #[.int .i64 0, .slice none 0 0, .bool false, .bool false, .bool false]
    have b1 := Blk.new (w.alloc (.cells #[.int .i64 0, .slice none 0 0, .bool false, .bool false, .bool false] 25)) 68 #[.slice A l.length c, .bool false]
    rw [z1] at b1
    have b2 := Blk.new ((w.alloc (.cells #[.int .i64 0, .slice none 0 0, .bool false, .bool false, .bool false] 25)).alloc (.cells #[.slice A l.length c, .bool false] 68)) 25 #[.int .i64 0, .slice none 0 0, .bool false, .bool false, .bool false]
    rw [z2] at b2
    have bel : Below w.heap.size w (((w.alloc (.cells #[.int .i64 0, .slice none 0 0, .bool false, .bool false, .bool false] 25)).alloc (.cells #[.slice A l.length c, .bool false] 68)).alloc (.cells #[.int .i64 0, .slice none 0 0, .bool false, .bool false, .bool false] 25)) := ((((Below.refl _ _).alloc (Nat.le_refl _) _).alloc (by rw [z1]; omega) _).alloc (by rw [z2]; omega) _)
    have hlt : ∀ a, A = some a → l ≠ [] → a.block < w.heap.size := fun a ha hn => by
      obtain ⟨b, off, e, hb, _⟩ := hr hn
      rw [ha] at e; injection e with e; rw [e]; exact hb
    exact ⟨(b0.alloc _).alloc _, b2, ⟨b1.alloc _, hr.below bel, hc, hm, hbd, fun a ha hn => by have := hlt a ha hn; omega⟩, fun a ha hn => by have := hlt a ha hn; omega, fun a ha hn => by have := hlt a ha hn; omega, bel⟩
  clear hr hc hm hbd
  go_enter Tryd.func18, Tryd.ntmps18
  go_wp2_with fail
  generalize (((w.alloc (.cells #[.int .i64 0, .slice none 0 0, .bool false, .bool false, .bool false] 25)).alloc (.cells #[.slice A l.length c, .bool false] 68)).alloc (.cells #[.int .i64 0, .slice none 0 0, .bool false, .bool false, .bool false] 25)) = W0 at *
  go_loopw [12] (fun ii wr => ∃ (k : Nat) (A' : Option Addr) (c' : Nat), k ≤ 8 ∧ ii = .int .i64 k ∧ GtQ (wrap64 (beTo l k)) none 0 0 false false false (l.drop k) (decide (l.length < k)) A' c' w wr) (fun ii _ => 8 - (intOf ii).toNat)
  case atStart => exact ⟨0, A, c, by omega, rfl, by have h := HQ.out; simpa [beTo, wrap64] using h⟩
  case round =>
    clear HQ
    obtain ⟨k, A', c', hk, rfl, hq⟩ := hrel
    have HQ := Lib.hid hq
    clear hq
    by_cases hlt : k < 8
    · have dk : decide ((k : Int) < 8) = true := decide_eq_true (by omega)
      have HOR := Lib.hid (or_stepW l k)
      go_wp2_with fail
      have HQ := Lib.hid HQ.out.drew
      refine wp_region_held_drew (S := fun _ => True) (by kernel_rfl) trivial (fun hHeld => ?_)
      refine held_take 0 14 (.pointer (some ⟨(w.heap.size + 1 + 1), 0, none⟩)) rfl rfl (by kernel_rfl) (by kernel_rfl) (by kernel_rfl) (fun _ _ _ h => h) (by rfl) (by intro w' hSw; (try dsimp only at hSw); go_simp; (try (with_reducible rfl))) (by assumption) ?_
      simp only [Act.put, List.setIfInBounds_toArray, List.set_cons_zero, List.set_cons_succ]
      refine held_take 3 17 (.pointer (some ⟨(w.heap.size + 1), 0, none⟩)) rfl rfl (by kernel_rfl) (by kernel_rfl) (by kernel_rfl) (fun _ _ _ h => h) (by rfl) (by intro w' hSw; (try dsimp only at hSw); go_simp; (try (with_reducible rfl))) (by assumption) ?_
      simp only [Act.put, List.setIfInBounds_toArray, List.set_cons_zero, List.set_cons_succ]
      refine held_twoD 1 4 15 18 rfl rfl rfl rfl (by kernel_rfl) (by rfl) (by rfl) (fun K hK => ?_) (fun K hK => ?_)
      · have cs := HQ.out.sb.cell
        go_simp
        refine hK _ _ trivial ?_
        clear hK K
        simp only [Act.put, List.setIfInBounds_toArray, List.set_cons_zero, List.set_cons_succ]
        clear cs
        refine held_take 2 16 (.int .i64 (wrap64 ((wrap64 (beTo l k)) * 256))) rfl rfl (by kernel_rfl) (by kernel_rfl) (by kernel_rfl) (fun _ _ _ h => h) (by rfl) (by intro w' hSw; (try dsimp only at hSw); go_simp; (first | done | with_reducible rfl | (exact wrap_eq _))) (by assumption) ?_
        simp only [Act.put, List.setIfInBounds_toArray, List.set_cons_zero, List.set_cons_succ]
        refine held_call 4 18 rfl rfl (by kernel_rfl) (by rfl) (fun K hK => ?_)
        go_simp
        go_at_call 36; (with_reducible refine (nextH_any (w.heap.size + 1) l k A' c' _ HQ.out.rq).mono ?_); rintro e w6 ⟨A2, c2, rfl, hq, hg, hz, hf⟩
        have HQ := Lib.hid (HQ.out.next hq hg (hf _ HQ.out.f0) (hf _ HQ.out.f1))
        clear hq hg hz hf
        refine hK _ _ trivial ?_
        clear hK K
        simp only [Act.put, List.setIfInBounds_toArray, List.set_cons_zero, List.set_cons_succ]
        refine held_take 5 19 (.int .i64 (wrap64 (beTo l (k + 1)))) rfl rfl (by kernel_rfl) (by kernel_rfl) (by kernel_rfl) (fun _ _ _ h => h) (by rfl) (by intro w' hSw; (try dsimp only at hSw); go_simp; (first | done | with_reducible rfl | (exact HOR.out))) (by assumption) ?_
        simp only [Act.put, List.setIfInBounds_toArray, List.set_cons_zero, List.set_cons_succ]
        refine held_take 6 20 (.pointer (some ⟨(w.heap.size + 1 + 1), 0, none⟩)) rfl rfl (by kernel_rfl) (by kernel_rfl) (by kernel_rfl) (fun _ _ _ h => h) (by rfl) (by intro w' hSw; (try dsimp only at hSw); go_simp; (try (with_reducible rfl))) (by assumption) ?_
        simp only [Act.put, List.setIfInBounds_toArray, List.set_cons_zero, List.set_cons_succ]
        refine held_op 7 rfl (by kernel_rfl) (by rfl) (fun K hK => ?_)
        have cs := HQ.out.sb.cell
        have fs := HQ.out.sb.frozen
        go_simp
        refine hK undef _ trivial ?_
        clear hK K cs fs
        simp only [Act.put, List.setIfInBounds_toArray]
        refine wpAnyH_done (by kernel_rfl) ?_ _
        clear hHeld
        go_wp2_with fail
        go_roundw
        case rel => exact ⟨k + 1, A2, c2, by omega, by go_num, HQ.out.set (z' := wrap64 (beTo l (k + 1))) 0 _ rfl⟩
        case measure => simp [intOf]; omega
      · go_simp
        go_at_call 36; (with_reducible refine (nextH_any (w.heap.size + 1) l k A' c' _ HQ.out.rq).mono ?_); rintro e w6 ⟨A2, c2, rfl, hq, hg, hz, hf⟩
        have HQ := Lib.hid (HQ.out.next hq hg (hf _ HQ.out.f0) (hf _ HQ.out.f1))
        clear hq hg hz hf
        refine hK _ _ trivial ?_
        clear hK K
        simp only [Act.put, List.setIfInBounds_toArray, List.set_cons_zero, List.set_cons_succ]
        refine held_call 1 15 rfl rfl (by kernel_rfl) (by rfl) (fun K hK => ?_)
        have cs := HQ.out.sb.cell
        go_simp
        refine hK _ _ trivial ?_
        clear hK K
        simp only [Act.put, List.setIfInBounds_toArray, List.set_cons_zero, List.set_cons_succ]
        clear cs
        refine held_take 2 16 (.int .i64 (wrap64 ((wrap64 (beTo l k)) * 256))) rfl rfl (by kernel_rfl) (by kernel_rfl) (by kernel_rfl) (fun _ _ _ h => h) (by rfl) (by intro w' hSw; (try dsimp only at hSw); go_simp; (first | done | with_reducible rfl | (exact wrap_eq _))) (by assumption) ?_
        simp only [Act.put, List.setIfInBounds_toArray, List.set_cons_zero, List.set_cons_succ]
        refine held_take 5 19 (.int .i64 (wrap64 (beTo l (k + 1)))) rfl rfl (by kernel_rfl) (by kernel_rfl) (by kernel_rfl) (fun _ _ _ h => h) (by rfl) (by intro w' hSw; (try dsimp only at hSw); go_simp; (first | done | with_reducible rfl | (exact HOR.out))) (by assumption) ?_
        simp only [Act.put, List.setIfInBounds_toArray, List.set_cons_zero, List.set_cons_succ]
        refine held_take 6 20 (.pointer (some ⟨(w.heap.size + 1 + 1), 0, none⟩)) rfl rfl (by kernel_rfl) (by kernel_rfl) (by kernel_rfl) (fun _ _ _ h => h) (by rfl) (by intro w' hSw; (try dsimp only at hSw); go_simp; (try (with_reducible rfl))) (by assumption) ?_
        simp only [Act.put, List.setIfInBounds_toArray, List.set_cons_zero, List.set_cons_succ]
        refine held_op 7 rfl (by kernel_rfl) (by rfl) (fun K hK => ?_)
        have cs := HQ.out.sb.cell
        have fs := HQ.out.sb.frozen
        go_simp
        refine hK undef _ trivial ?_
        clear hK K cs fs
        simp only [Act.put, List.setIfInBounds_toArray]
        refine wpAnyH_done (by kernel_rfl) ?_ _
        clear hHeld
        go_wp2_with fail
        go_roundw
        case rel => exact ⟨k + 1, A2, c2, by omega, by go_num, HQ.out.set (z' := wrap64 (beTo l (k + 1))) 0 _ rfl⟩
        case measure => simp [intOf]; omega
    · obtain rfl : k = 8 := by omega
      go_wp2_with fail
      refine (nextH_any (w.heap.size + 1) l 8 A' c' _ HQ.out.rq).mono ?_; rintro e w6 ⟨A2, c2, rfl, hq, hg, hz, hf⟩
      have HQ := Lib.hid (HQ.out.next hq hg (hf _ HQ.out.f0) (hf _ HQ.out.f1))
      clear hq hg hz hf
      obtain ⟨y, hy⟩ : ∃ y, l.getD 8 0 = y := ⟨_, rfl⟩
      have HY := Lib.hid hy
      rw [hy]
      clear hy
      have hy255 : (y.toNat : Int) ≤ 255 := by have := y.toNat_lt; omega
      obtain ⟨z8, hz8⟩ : ∃ z, wrap64 (beTo l 8) = z := ⟨_, rfl⟩
      have HZ8 := Lib.hid hz8
      rw [hz8] at HQ
      clear hz8
      go_wp2_with fail
      go_loopw [24] (fun ii wr => ∃ (i : Nat) (p0 p1 p2 : Bool), i ≤ 3 ∧ ii = .int .i64 i ∧ p0 = (decide (0 < i) && bitD y 0) ∧ p1 = (decide (1 < i) && bitD y 1) ∧ p2 = (decide (2 < i) && bitD y 2) ∧ GtQ z8 none 0 0 p0 p1 p2 (l.drop 9) (decide (l.length < 9)) A2 c2 w wr) (fun ii _ => 3 - (intOf ii).toNat)
      case atStart => exact ⟨0, false, false, false, by omega, rfl, rfl, rfl, rfl, HQ.out⟩
      case round =>
        clear HQ
        obtain ⟨i, p0, p1, p2, hi, rfl, hp0, hp1, hp2, hq⟩ := hrel
        have HQ := Lib.hid hq
        clear hq
        have cs := HQ.out.sb.cell
        have fs := HQ.out.sb.frozen
        obtain rfl | rfl | rfl | rfl : i = 0 ∨ i = 1 ∨ i = 2 ∨ i = 3 := by omega
        · have HBT := Lib.hid (bit_0 y)
          go_wp2_with fail
          go_roundw
          case rel => exact ⟨1, bitD y 0, p1, p2, by omega, by rfl, by rfl, by simpa using hp1, by simpa using hp2, HQ.out.set 2 _ (by rw [HBT.out]; rfl)⟩
          case measure => simp [intOf]
        · have HBT := Lib.hid (bit_1 y)
          go_wp2_with fail
          go_roundw
          case rel => exact ⟨2, p0, bitD y 1, p2, by omega, by rfl, by simpa using hp0, by rfl, by simpa using hp2, HQ.out.set 3 _ (by rw [HBT.out]; rfl)⟩
          case measure => simp [intOf]
        · have HBT := Lib.hid (bit_2 y)
          go_wp2_with fail
          go_roundw
          case rel => exact ⟨3, p0, p1, bitD y 2, by omega, by rfl, by simpa using hp0, by simpa using hp1, by rfl, HQ.out.set 4 _ (by rw [HBT.out]; rfl)⟩
          case measure => simp [intOf]
        · have q0 : p0 = bitD y 0 := by simpa using hp0
          have q1 : p1 = bitD y 1 := by simpa using hp1
          have q2 : p2 = bitD y 2 := by simpa using hp2
          have HPB := Lib.hid (And.intro q0 (And.intro q1 q2))
          clear hp0 hp1 hp2 q0 q1 q2 cs fs
          go_wp2_with fail
          refine (nextH_any (w.heap.size + 1) l 9 A2 c2 _ HQ.out.rq).mono ?_; rintro e w7 ⟨A3, c3, rfl, hq, hg, hz, hf⟩
          have HQ := Lib.hid (HQ.out.next hq hg (hf _ HQ.out.f0) (hf _ HQ.out.f1))
          clear hq hg hz hf
          obtain ⟨nb, hnb⟩ : ∃ y, l.getD 9 0 = y := ⟨_, rfl⟩
          have HNB := Lib.hid hnb
          rw [hnb]
          clear hnb
          have hnb255 := nb.toNat_lt
          obtain ⟨NN, hNN⟩ : ∃ n : Nat, min nb.toNat 65 = n := ⟨_, rfl⟩
          have HNN := Lib.hid hNN
          have hN65 : NN ≤ 65 := by rw [← hNN]; exact Nat.min_le_right _ _
          have hm1 : min (nb.toNat : Int) 65 = (NN : Int) := by rw [← hNN]; omega
          have hm2 : (if (nb.toNat : Int) ≤ 65 then (nb.toNat : Int) else 65) = (NN : Int) := by rw [← hNN]; split <;> omega
          have hm3 : (if (nb.toNat : Int) < 65 then (nb.toNat : Int) else 65) = (NN : Int) := by rw [← hNN]; split <;> omega
          have hm4 : (if (65 : Int) < (nb.toNat : Int) then (65 : Int) else (nb.toNat : Int)) = (NN : Int) := by rw [← hNN]; split <;> omega
          clear hNN
          go_wp2_with fail
          clear hm1 hm2 hm3 hm4
          obtain ⟨GG, hGG⟩ : ∃ G, (if 10 ≤ l.length then entsD NN (l.drop 10) else none) = G := ⟨_, rfl⟩
          have HGG := Lib.hid hGG
          clear hGG
          have hgl : w.heap.size + 1 + 1 < w7.heap.size := HQ.out.sb.lt
          have HNW := Lib.hid (show min (l.getD 9 0).toNat 65 = NN by rw [HNB.out]; exact HNN.out)
          go_loopw [40] (fun ii wr => ∃ (i : Nat) (ES : List En) (A1 : Option Addr) (c1 : Nat) (m : List UInt8) (bad : Bool) (A4 : Option Addr) (c4 : Nat), i ≤ NN ∧ ii = .int .i64 i ∧ ES.length = i ∧ GotTo GG NN i ES m bad ∧ GtQ z8 A1 ES.length c1 p0 p1 p2 m bad A4 c4 w wr ∧ Own wr w7.heap.size 46 encN (.slice A1 ES.length c1) ES ∧ w7.heap.size ≤ wr.heap.size ∧ (∀ k, (Value.slice A1 ES.length c1).ownBlock = some k → ∀ a, A4 = some a → m ≠ [] → a.block ≠ k)) (fun ii _ => NN - (intOf ii).toNat)
          case atStart =>
            refine ⟨0, [], none, 0, l.drop 10, decide (l.length < 10), A3, c3, by omega, rfl, rfl, ?_, HQ.out, Own.nil_ _ _ _ _, Nat.le_refl _, fun k hk => by cases hk⟩
            rw [← HGG.out]
            by_cases h10 : l.length < 10
            · right; rw [decide_eq_true h10, if_neg (by omega)]; exact ⟨rfl, rfl⟩
            · left; rw [decide_eq_false h10, if_pos (by omega)]; refine ⟨rfl, fun x hx => (by cases hx), ?_⟩; cases entsD NN (l.drop 10) <;> simp
          case round =>
            clear HQ
            obtain ⟨i, ES, A1, c1, m, bad, A4, c4, hi, rfl, hES, hG, hq, ho, hwl, hfo⟩ := hrel
            have HQ := Lib.hid hq
            have HO := Lib.hid ho
            have HG := Lib.hid hG
            have HFO := Lib.hid hfo
            have HES := Lib.hid hES
            have hel : ES.length ≤ 65 := by omega
            clear hq ho hG hfo hES
            have cg := HQ.out.rq.blk.cell
            by_cases hlt : i < NN
            · have dk : decide ((i : Int) < (NN : Int)) = true := decide_eq_true (by omega)
              cases bad
              · go_wp2_with fail
                clear cg
                have HQ := Lib.hid HQ.out.drew
                have HO := Lib.hid HO.out.drew
                refine wp_region_held_drew (S := fun _ => True) (by kernel_rfl) trivial (fun hHeld => ?_)
                refine held_take 0 46 (.pointer (some ⟨(w.heap.size + 1 + 1), 1, none⟩)) rfl rfl (by kernel_rfl) (by kernel_rfl) (by kernel_rfl) (fun _ _ _ h => h) (by rfl) (by intro w' hSw; (try dsimp only at hSw); go_simp; (try (with_reducible rfl))) (by assumption) ?_
                simp only [Act.put, List.setIfInBounds_toArray, List.set_cons_zero, List.set_cons_succ]
                refine held_take 2 48 (.pointer (some ⟨(w.heap.size + 1), 0, none⟩)) rfl rfl (by kernel_rfl) (by kernel_rfl) (by kernel_rfl) (fun _ _ _ h => h) (by rfl) (by intro w' hSw; (try dsimp only at hSw); go_simp; (try (with_reducible rfl))) (by assumption) ?_
                simp only [Act.put, List.setIfInBounds_toArray, List.set_cons_zero, List.set_cons_succ]
                refine held_twoD 1 3 47 49 rfl rfl rfl rfl (by kernel_rfl) (by rfl) (by rfl) (fun K hK => ?_) (fun K hK => ?_)
                · have cs := HQ.out.sb.cell
                  go_simp
                  refine hK _ _ trivial ?_
                  clear hK K
                  simp only [Act.put, List.setIfInBounds_toArray, List.set_cons_zero, List.set_cons_succ]
                  clear cs
                  refine held_call 3 49 rfl rfl (by kernel_rfl) (by rfl) (fun K hK => ?_)
                  go_simp
                  go_at_call 37; (with_reducible refine (entry_any (w.heap.size + 1) m false A4 c4 _ HQ.out.rq HQ.out.rq.blk.lt).mono ?_); rintro e w8 ⟨zz, m', bad', A5, c5, rfl, hq, hg, hf, hcase⟩
                  have HF5 := Lib.hid (show ∀ k, (Value.slice A1 ES.length c1).ownBlock = some k → ∀ a, A5 = some a → m' ≠ [] → a.block ≠ k from fun k hk => hf k (HO.out.block_lt k hk).2 (HFO.out k hk))
                  have HO := Lib.hid (HO.out.grown hg (.inr (HO.out.ne_blk HQ.out.rq.blk (by decide)).symm))
                  have HQ := Lib.hid (HQ.out.next hq hg (hf _ HQ.out.rb.lt HQ.out.f0) (hf _ HQ.out.sb.lt HQ.out.f1))
                  have HC := Lib.hid hcase
                  have HW8 := Lib.hid hg.size
                  clear hq hg hf hcase
                  refine hK _ _ trivial ?_
                  clear hK K
                  simp only [Act.put, List.setIfInBounds_toArray, List.set_cons_zero, List.set_cons_succ]
                  refine held_call 4 50 rfl rfl (by kernel_rfl) (by rfl) (fun K hK => ?_)
                  go_simp
                  refine hK _ _ trivial ?_
                  clear hK K
                  simp only [Act.put, List.setIfInBounds_toArray, List.set_cons_zero, List.set_cons_succ]
                  have HRW := Lib.hid (Rds.made w8 encN [zz] 46 #[.string zz.pod.id, .int .i64 zz.pod.prio, .bool zz.pod.crit, .int .i64 zz.pod.q0, .int .i64 zz.pod.q1, .int .i64 zz.pod.q2, .int .i64 zz.pod.l0, .int .i64 zz.pod.l1, .int .i64 zz.pod.l2, .string zz.pod.image, .int .i64 zz.pod.size, .int .i64 zz.phase] (0, 0) rfl)
                  have HOA := Lib.hid (HO.out.alloc (.cells #[.string zz.pod.id, .int .i64 zz.pod.prio, .bool zz.pod.crit, .int .i64 zz.pod.q0, .int .i64 zz.pod.q1, .int .i64 zz.pod.q2, .int .i64 zz.pod.l0, .int .i64 zz.pod.l1, .int .i64 zz.pod.l2, .string zz.pod.image, .int .i64 zz.pod.size, .int .i64 zz.phase] 46))
                  have HQA := Lib.hid (HQ.out.below ((Below.refl _ _).alloc (Nat.le_refl _) (.cells #[.string zz.pod.id, .int .i64 zz.pod.prio, .bool zz.pod.crit, .int .i64 zz.pod.q0, .int .i64 zz.pod.q1, .int .i64 zz.pod.q2, .int .i64 zz.pod.l0, .int .i64 zz.pod.l1, .int .i64 zz.pod.l2, .string zz.pod.image, .int .i64 zz.pod.size, .int .i64 zz.phase] 46)))
                  refine held_call 5 51 rfl rfl (by kernel_rfl) (by rfl) (fun K hK => ?_)
                  refine wp_app (w8.alloc (.cells #[.string zz.pod.id, .int .i64 zz.pod.prio, .bool zz.pod.crit, .int .i64 zz.pod.q0, .int .i64 zz.pod.q1, .int .i64 zz.pod.q2, .int .i64 zz.pod.l0, .int .i64 zz.pod.l1, .int .i64 zz.pod.l2, .string zz.pod.image, .int .i64 zz.pod.size, .int .i64 zz.phase] 46)) elemN encN (.tmp 47) (.tmp 50) rfl w7.heap.size _ ES (by simp [Act.eval]) HOA.out _ [zz] 1 (by simp [Act.eval]) HRW.out (by simp; omega) (by simp; omega) (by have := HW8.out; simp at this ⊢; omega) ?_
                  intro A6 c6 w9 ho hg hd
                  have HQ9 := Lib.hid (HQA.out.app hg (fun k hk => ⟨by have := (HOA.out.block_lt k hk).1; omega, HF5.out k hk⟩))
                  have HF9 := Lib.hid (show ∀ k, (Value.slice A6 (ES.length + [zz].length) c6).ownBlock = some k → ∀ a, A5 = some a → m' ≠ [] → a.block ≠ k from fun k hk a ha hn => by
                    rcases hd with h1 | h1
                    · exact HF5.out k (by rw [← h1]; exact hk) a ha hn
                    · obtain ⟨b, off, e5, hb, _⟩ := HQ.out.rq.rds hn
                      rw [h1] at hk; injection hk with hk
                      rw [ha] at e5; injection e5 with e5
                      rw [e5]
                      show b ≠ k
                      simp at hk
                      omega)
                  have HO9 := Lib.hid ho
                  have HW9 := Lib.hid hg.size
                  clear ho hg hd
                  refine hK _ _ trivial ?_
                  clear hK K
                  simp only [Act.put, List.setIfInBounds_toArray, List.set_cons_zero, List.set_cons_succ]
                  refine held_take 6 52 (.pointer (some ⟨(w.heap.size + 1 + 1), 1, none⟩)) rfl rfl (by kernel_rfl) (by kernel_rfl) (by kernel_rfl) (fun _ _ _ h => h) (by rfl) (by intro w' hSw; (try dsimp only at hSw); go_simp; (try (with_reducible rfl))) (by assumption) ?_
                  simp only [Act.put, List.setIfInBounds_toArray, List.set_cons_zero, List.set_cons_succ]
                  refine held_op 7 rfl (by kernel_rfl) (by rfl) (fun K hK => ?_)
                  have cs := HQ9.out.sb.cell
                  have fs := HQ9.out.sb.frozen
                  go_simp
                  refine hK undef _ trivial ?_
                  clear hK K cs fs
                  simp only [Act.put, List.setIfInBounds_toArray]
                  refine wpAnyH_done (by kernel_rfl) ?_ _
                  clear hHeld
                  have HGN := Lib.hid (GotNext HG.out HC.out hlt)
                  go_wp2_with fail
                  go_roundw
                  case rel => exact ⟨i + 1, ES ++ [zz], A6, c6, m', bad', A5, c5, by omega, by go_num, by rw [List.length_append, HES.out]; rfl, HGN.out, by rw [List.length_append]; exact HQ9.out.set 1 _ rfl, by rw [List.length_append]; exact HO9.out.setFar HQ9.out.sb (by decide) 1 _, by have h1 := HW8.out; have h2 := HW9.out; simp [World.setCell] at h1 h2 ⊢; omega, by rw [List.length_append]; exact HF9.out⟩
                  case measure => simp [intOf]; omega
                · go_simp
                  go_at_call 37; (with_reducible refine (entry_any (w.heap.size + 1) m false A4 c4 _ HQ.out.rq HQ.out.rq.blk.lt).mono ?_); rintro e w8 ⟨zz, m', bad', A5, c5, rfl, hq, hg, hf, hcase⟩
                  have HF5 := Lib.hid (show ∀ k, (Value.slice A1 ES.length c1).ownBlock = some k → ∀ a, A5 = some a → m' ≠ [] → a.block ≠ k from fun k hk => hf k (HO.out.block_lt k hk).2 (HFO.out k hk))
                  have HO := Lib.hid (HO.out.grown hg (.inr (HO.out.ne_blk HQ.out.rq.blk (by decide)).symm))
                  have HQ := Lib.hid (HQ.out.next hq hg (hf _ HQ.out.rb.lt HQ.out.f0) (hf _ HQ.out.sb.lt HQ.out.f1))
                  have HC := Lib.hid hcase
                  have HW8 := Lib.hid hg.size
                  clear hq hg hf hcase
                  refine hK _ _ trivial ?_
                  clear hK K
                  simp only [Act.put, List.setIfInBounds_toArray, List.set_cons_zero, List.set_cons_succ]
                  refine held_twoD 1 4 47 50 rfl rfl rfl rfl (by kernel_rfl) (by rfl) (by rfl) (fun K hK => ?_) (fun K hK => ?_)
                  · have cs := HQ.out.sb.cell
                    go_simp
                    refine hK _ _ trivial ?_
                    clear hK K
                    simp only [Act.put, List.setIfInBounds_toArray, List.set_cons_zero, List.set_cons_succ]
                    clear cs
                    refine held_call 4 50 rfl rfl (by kernel_rfl) (by rfl) (fun K hK => ?_)
                    go_simp
                    refine hK _ _ trivial ?_
                    clear hK K
                    simp only [Act.put, List.setIfInBounds_toArray, List.set_cons_zero, List.set_cons_succ]
                    have HRW := Lib.hid (Rds.made w8 encN [zz] 46 #[.string zz.pod.id, .int .i64 zz.pod.prio, .bool zz.pod.crit, .int .i64 zz.pod.q0, .int .i64 zz.pod.q1, .int .i64 zz.pod.q2, .int .i64 zz.pod.l0, .int .i64 zz.pod.l1, .int .i64 zz.pod.l2, .string zz.pod.image, .int .i64 zz.pod.size, .int .i64 zz.phase] (0, 0) rfl)
                    have HOA := Lib.hid (HO.out.alloc (.cells #[.string zz.pod.id, .int .i64 zz.pod.prio, .bool zz.pod.crit, .int .i64 zz.pod.q0, .int .i64 zz.pod.q1, .int .i64 zz.pod.q2, .int .i64 zz.pod.l0, .int .i64 zz.pod.l1, .int .i64 zz.pod.l2, .string zz.pod.image, .int .i64 zz.pod.size, .int .i64 zz.phase] 46))
                    have HQA := Lib.hid (HQ.out.below ((Below.refl _ _).alloc (Nat.le_refl _) (.cells #[.string zz.pod.id, .int .i64 zz.pod.prio, .bool zz.pod.crit, .int .i64 zz.pod.q0, .int .i64 zz.pod.q1, .int .i64 zz.pod.q2, .int .i64 zz.pod.l0, .int .i64 zz.pod.l1, .int .i64 zz.pod.l2, .string zz.pod.image, .int .i64 zz.pod.size, .int .i64 zz.phase] 46)))
                    refine held_call 5 51 rfl rfl (by kernel_rfl) (by rfl) (fun K hK => ?_)
                    refine wp_app (w8.alloc (.cells #[.string zz.pod.id, .int .i64 zz.pod.prio, .bool zz.pod.crit, .int .i64 zz.pod.q0, .int .i64 zz.pod.q1, .int .i64 zz.pod.q2, .int .i64 zz.pod.l0, .int .i64 zz.pod.l1, .int .i64 zz.pod.l2, .string zz.pod.image, .int .i64 zz.pod.size, .int .i64 zz.phase] 46)) elemN encN (.tmp 47) (.tmp 50) rfl w7.heap.size _ ES (by simp [Act.eval]) HOA.out _ [zz] 1 (by simp [Act.eval]) HRW.out (by simp; omega) (by simp; omega) (by have := HW8.out; simp at this ⊢; omega) ?_
                    intro A6 c6 w9 ho hg hd
                    have HQ9 := Lib.hid (HQA.out.app hg (fun k hk => ⟨by have := (HOA.out.block_lt k hk).1; omega, HF5.out k hk⟩))
                    have HF9 := Lib.hid (show ∀ k, (Value.slice A6 (ES.length + [zz].length) c6).ownBlock = some k → ∀ a, A5 = some a → m' ≠ [] → a.block ≠ k from fun k hk a ha hn => by
                      rcases hd with h1 | h1
                      · exact HF5.out k (by rw [← h1]; exact hk) a ha hn
                      · obtain ⟨b, off, e5, hb, _⟩ := HQ.out.rq.rds hn
                        rw [h1] at hk; injection hk with hk
                        rw [ha] at e5; injection e5 with e5
                        rw [e5]
                        show b ≠ k
                        simp at hk
                        omega)
                    have HO9 := Lib.hid ho
                    have HW9 := Lib.hid hg.size
                    clear ho hg hd
                    refine hK _ _ trivial ?_
                    clear hK K
                    simp only [Act.put, List.setIfInBounds_toArray, List.set_cons_zero, List.set_cons_succ]
                    refine held_take 6 52 (.pointer (some ⟨(w.heap.size + 1 + 1), 1, none⟩)) rfl rfl (by kernel_rfl) (by kernel_rfl) (by kernel_rfl) (fun _ _ _ h => h) (by rfl) (by intro w' hSw; (try dsimp only at hSw); go_simp; (try (with_reducible rfl))) (by assumption) ?_
                    simp only [Act.put, List.setIfInBounds_toArray, List.set_cons_zero, List.set_cons_succ]
                    refine held_op 7 rfl (by kernel_rfl) (by rfl) (fun K hK => ?_)
                    have cs := HQ9.out.sb.cell
                    have fs := HQ9.out.sb.frozen
                    go_simp
                    refine hK undef _ trivial ?_
                    clear hK K cs fs
                    simp only [Act.put, List.setIfInBounds_toArray]
                    refine wpAnyH_done (by kernel_rfl) ?_ _
                    clear hHeld
                    have HGN := Lib.hid (GotNext HG.out HC.out hlt)
                    go_wp2_with fail
                    go_roundw
                    case rel => exact ⟨i + 1, ES ++ [zz], A6, c6, m', bad', A5, c5, by omega, by go_num, by rw [List.length_append, HES.out]; rfl, HGN.out, by rw [List.length_append]; exact HQ9.out.set 1 _ rfl, by rw [List.length_append]; exact HO9.out.setFar HQ9.out.sb (by decide) 1 _, by have h1 := HW8.out; have h2 := HW9.out; simp [World.setCell] at h1 h2 ⊢; omega, by rw [List.length_append]; exact HF9.out⟩
                    case measure => simp [intOf]; omega
                  · go_simp
                    refine hK _ _ trivial ?_
                    clear hK K
                    simp only [Act.put, List.setIfInBounds_toArray, List.set_cons_zero, List.set_cons_succ]
                    have HRW := Lib.hid (Rds.made w8 encN [zz] 46 #[.string zz.pod.id, .int .i64 zz.pod.prio, .bool zz.pod.crit, .int .i64 zz.pod.q0, .int .i64 zz.pod.q1, .int .i64 zz.pod.q2, .int .i64 zz.pod.l0, .int .i64 zz.pod.l1, .int .i64 zz.pod.l2, .string zz.pod.image, .int .i64 zz.pod.size, .int .i64 zz.phase] (0, 0) rfl)
                    have HOA := Lib.hid (HO.out.alloc (.cells #[.string zz.pod.id, .int .i64 zz.pod.prio, .bool zz.pod.crit, .int .i64 zz.pod.q0, .int .i64 zz.pod.q1, .int .i64 zz.pod.q2, .int .i64 zz.pod.l0, .int .i64 zz.pod.l1, .int .i64 zz.pod.l2, .string zz.pod.image, .int .i64 zz.pod.size, .int .i64 zz.phase] 46))
                    have HQA := Lib.hid (HQ.out.below ((Below.refl _ _).alloc (Nat.le_refl _) (.cells #[.string zz.pod.id, .int .i64 zz.pod.prio, .bool zz.pod.crit, .int .i64 zz.pod.q0, .int .i64 zz.pod.q1, .int .i64 zz.pod.q2, .int .i64 zz.pod.l0, .int .i64 zz.pod.l1, .int .i64 zz.pod.l2, .string zz.pod.image, .int .i64 zz.pod.size, .int .i64 zz.phase] 46)))
                    refine held_call 1 47 rfl rfl (by kernel_rfl) (by rfl) (fun K hK => ?_)
                    have cs := HQA.out.sb.cell
                    go_simp
                    refine hK _ _ trivial ?_
                    clear hK K
                    simp only [Act.put, List.setIfInBounds_toArray, List.set_cons_zero, List.set_cons_succ]
                    clear cs
                    refine held_call 5 51 rfl rfl (by kernel_rfl) (by rfl) (fun K hK => ?_)
                    refine wp_app (w8.alloc (.cells #[.string zz.pod.id, .int .i64 zz.pod.prio, .bool zz.pod.crit, .int .i64 zz.pod.q0, .int .i64 zz.pod.q1, .int .i64 zz.pod.q2, .int .i64 zz.pod.l0, .int .i64 zz.pod.l1, .int .i64 zz.pod.l2, .string zz.pod.image, .int .i64 zz.pod.size, .int .i64 zz.phase] 46)) elemN encN (.tmp 47) (.tmp 50) rfl w7.heap.size _ ES (by simp [Act.eval]) HOA.out _ [zz] 1 (by simp [Act.eval]) HRW.out (by simp; omega) (by simp; omega) (by have := HW8.out; simp at this ⊢; omega) ?_
                    intro A6 c6 w9 ho hg hd
                    have HQ9 := Lib.hid (HQA.out.app hg (fun k hk => ⟨by have := (HOA.out.block_lt k hk).1; omega, HF5.out k hk⟩))
                    have HF9 := Lib.hid (show ∀ k, (Value.slice A6 (ES.length + [zz].length) c6).ownBlock = some k → ∀ a, A5 = some a → m' ≠ [] → a.block ≠ k from fun k hk a ha hn => by
                      rcases hd with h1 | h1
                      · exact HF5.out k (by rw [← h1]; exact hk) a ha hn
                      · obtain ⟨b, off, e5, hb, _⟩ := HQ.out.rq.rds hn
                        rw [h1] at hk; injection hk with hk
                        rw [ha] at e5; injection e5 with e5
                        rw [e5]
                        show b ≠ k
                        simp at hk
                        omega)
                    have HO9 := Lib.hid ho
                    have HW9 := Lib.hid hg.size
                    clear ho hg hd
                    refine hK _ _ trivial ?_
                    clear hK K
                    simp only [Act.put, List.setIfInBounds_toArray, List.set_cons_zero, List.set_cons_succ]
                    refine held_take 6 52 (.pointer (some ⟨(w.heap.size + 1 + 1), 1, none⟩)) rfl rfl (by kernel_rfl) (by kernel_rfl) (by kernel_rfl) (fun _ _ _ h => h) (by rfl) (by intro w' hSw; (try dsimp only at hSw); go_simp; (try (with_reducible rfl))) (by assumption) ?_
                    simp only [Act.put, List.setIfInBounds_toArray, List.set_cons_zero, List.set_cons_succ]
                    refine held_op 7 rfl (by kernel_rfl) (by rfl) (fun K hK => ?_)
                    have cs := HQ9.out.sb.cell
                    have fs := HQ9.out.sb.frozen
                    go_simp
                    refine hK undef _ trivial ?_
                    clear hK K cs fs
                    simp only [Act.put, List.setIfInBounds_toArray]
                    refine wpAnyH_done (by kernel_rfl) ?_ _
                    clear hHeld
                    have HGN := Lib.hid (GotNext HG.out HC.out hlt)
                    go_wp2_with fail
                    go_roundw
                    case rel => exact ⟨i + 1, ES ++ [zz], A6, c6, m', bad', A5, c5, by omega, by go_num, by rw [List.length_append, HES.out]; rfl, HGN.out, by rw [List.length_append]; exact HQ9.out.set 1 _ rfl, by rw [List.length_append]; exact HO9.out.setFar HQ9.out.sb (by decide) 1 _, by have h1 := HW8.out; have h2 := HW9.out; simp [World.setCell] at h1 h2 ⊢; omega, by rw [List.length_append]; exact HF9.out⟩
                    case measure => simp [intOf]; omega
              · have HN := Lib.hid (HG.out.bad_none)
                go_wp2_with (refine wl_store_blk rfl 25 (.tmp 2) (.tmp 76) rfl w.heap.size 25 #[.int .i64 0, .slice none 0 0, .bool false, .bool false, .bool false] #[.int .i64 0, .slice none 0 0, .bool false, .bool false, .bool false] rfl rfl HQ.out.rb rfl infoS (by simp [Value.oneCell']) ?_; intro w5 hR5 hg5 hs5)
                have hl5 := hR5.cell
                have HB5 : Below w.heap.size w w5 := HQ.out.bel.grown hg5 HQ.out.bel.size (by intro k hk; cases hk; omega)
                exact bodyPost_ret (v := .tuple #[.agg #[.int .i64 0, .slice none 0 0, .bool false, .bool false, .bool false], .int .i64 3]) (by simp [results, Tryd.results18, go_sem, hl5]) rfl (.inr ⟨nogot_none HNW.out (HGG.out.trans HN.out), rfl, HB5⟩)
            · obtain rfl : i = NN := by omega
              have dk : decide ((i : Int) < (i : Int)) = false := by simp
              cases bad
              · obtain ⟨hGE, hWFE⟩ := HG.out.good_end
                have HGE := Lib.hid (HGG.out.trans hGE)
                have HWF := Lib.hid hWFE
                clear hGE hWFE cg
                cases hm : m with
                | cons x0 m0 =>
                  have hml : m.length = m0.length + 1 := by rw [hm]; rfl
                  have HNG := Lib.hid (nogot_rest HNW.out HGE.out (by rw [hm]; simp))
                  have cg : ∀ j, wr.cell? ⟨w.heap.size + 1, j, none⟩ = (#[.slice A4 (m0.length + 1) c4, .bool false] : Array Value)[j]? := by have h := HQ.out.rq.blk.cell; rw [hml] at h; exact h
                  have dl : decide ((0 : Int) < (m0.length : Int) + 1) = true := decide_eq_true (by omega)
                  clear hml hm
                  go_wp2_with (refine wl_store_blk rfl 25 (.tmp 2) (.tmp 76) rfl w.heap.size 25 #[.int .i64 0, .slice none 0 0, .bool false, .bool false, .bool false] #[.int .i64 0, .slice none 0 0, .bool false, .bool false, .bool false] rfl rfl HQ.out.rb rfl infoS (by simp [Value.oneCell']) ?_; intro w5 hR5 hg5 hs5)
                  have hl5 := hR5.cell
                  have HB5 : Below w.heap.size w w5 := HQ.out.bel.grown hg5 HQ.out.bel.size (by intro k hk; cases hk; omega)
                  exact bodyPost_ret (v := .tuple #[.agg #[.int .i64 0, .slice none 0 0, .bool false, .bool false, .bool false], .int .i64 3]) (by simp [results, Tryd.results18, go_sem, hl5]) rfl (.inr ⟨HNG.out, rfl, HB5⟩)
                | nil =>
                  have HME := Lib.hid hm
                  have cg : ∀ j, wr.cell? ⟨w.heap.size + 1, j, none⟩ = (#[.slice A4 0 c4, .bool false] : Array Value)[j]? := by have h := HQ.out.rq.blk.cell; rw [hm] at h; exact h
                  clear hm
                  by_cases hy8 : y.toNat < 8
                  · have d8 : decide ((0 : Int) < (y.toNat : Int) / 8) = false := decide_eq_false (by omega)
                    have cs := HQ.out.sb.cell
                    by_cases hR : RightS z8 ES
                    · have HRR := Lib.hid hR
                      clear hR
                      go_wp2_with fail
                      refine (stRightV_any (v := true) (RightS.iffYes HRR.out) A1 c1 p0 p1 p2 _ HO.out.toRds HWF.out (by omega)).mono ?_; rintro e w8 ⟨rfl, hb⟩
                      have HQ := Lib.hid (HQ.out.below hb)
                      have HO := Lib.hid (HO.out.below hb (Nat.le_refl _))
                      clear hb cs cg
                      have cs := HQ.out.sb.cell
                      go_wp2_with (refine wl_store_blk rfl 25 (.tmp 2) (.tmp 77) rfl w.heap.size 25 #[.int .i64 0, .slice none 0 0, .bool false, .bool false, .bool false] #[.int .i64 z8, .slice A1 ES.length c1, .bool p0, .bool p1, .bool p2] rfl rfl HQ.out.rb rfl infoS (by simp [Value.oneCell']) ?_; intro w5 hR5 hg5 hs5)
                      have hl5 := hR5.cell
                      have HB5 : Below w.heap.size w w5 := HQ.out.bel.grown hg5 HQ.out.bel.size (by intro k hk; cases hk; omega)
                      exact bodyPost_ret (v := .tuple #[.agg #[.int .i64 z8, .slice A1 ES.length c1, .bool p0, .bool p1, .bool p2], .int .i64 0]) (by simp [results, Tryd.results18, go_sem, hl5]) rfl (.inl ⟨z8, p0, p1, p2, ES, A1, c1, (by obtain ⟨q0, q1, q2⟩ := HPB.out; rw [q0, q1, q2, ← HZ8.out, ← HY.out]; exact got_yes HNW.out (by rw [HGE.out, HME.out]) (by rw [HZ8.out]; exact HRR.out) (by rw [HY.out]; exact hy8)), rfl, (HO.out.grown hg5 (.inr fun e => by have := (HO.out.block_lt _ e).1; omega)).mono (by omega), HB5⟩)
                    · have HNG := Lib.hid (nogot_right HNW.out HGE.out (by rw [HZ8.out]; exact hR))
                      have HRR := Lib.hid hR
                      clear hR
                      go_wp2_with fail
                      refine (stRightV_any (v := false) (RightS.iffNo HRR.out) A1 c1 p0 p1 p2 _ HO.out.toRds HWF.out (by omega)).mono ?_; rintro e w8 ⟨rfl, hb⟩
                      have HQ := Lib.hid (HQ.out.below hb)
                      clear hb cs cg
                      go_wp2_with (refine wl_store_blk rfl 25 (.tmp 2) (.tmp 76) rfl w.heap.size 25 #[.int .i64 0, .slice none 0 0, .bool false, .bool false, .bool false] #[.int .i64 0, .slice none 0 0, .bool false, .bool false, .bool false] rfl rfl HQ.out.rb rfl infoS (by simp [Value.oneCell']) ?_; intro w5 hR5 hg5 hs5)
                      have hl5 := hR5.cell
                      have HB5 : Below w.heap.size w w5 := HQ.out.bel.grown hg5 HQ.out.bel.size (by intro k hk; cases hk; omega)
                      exact bodyPost_ret (v := .tuple #[.agg #[.int .i64 0, .slice none 0 0, .bool false, .bool false, .bool false], .int .i64 3]) (by simp [results, Tryd.results18, go_sem, hl5]) rfl (.inr ⟨HNG.out, rfl, HB5⟩)
                  · have HNG := Lib.hid (show ∀ rd o0 o1 o2 es, ¬ GotD l rd o0 o1 o2 es from fun rd o0 o1 o2 es h => by have := h.on; rw [HY.out] at this; omega)
                    have d8 : decide ((0 : Int) < (y.toNat : Int) / 8) = true := decide_eq_true (by omega)
                    go_wp2_with (refine wl_store_blk rfl 25 (.tmp 2) (.tmp 76) rfl w.heap.size 25 #[.int .i64 0, .slice none 0 0, .bool false, .bool false, .bool false] #[.int .i64 0, .slice none 0 0, .bool false, .bool false, .bool false] rfl rfl HQ.out.rb rfl infoS (by simp [Value.oneCell']) ?_; intro w5 hR5 hg5 hs5)
                    have hl5 := hR5.cell
                    have HB5 : Below w.heap.size w w5 := HQ.out.bel.grown hg5 HQ.out.bel.size (by intro k hk; cases hk; omega)
                    exact bodyPost_ret (v := .tuple #[.agg #[.int .i64 0, .slice none 0 0, .bool false, .bool false, .bool false], .int .i64 3]) (by simp [results, Tryd.results18, go_sem, hl5]) rfl (.inr ⟨HNG.out, rfl, HB5⟩)
              · have HN := Lib.hid (HG.out.bad_none)
                go_wp2_with (refine wl_store_blk rfl 25 (.tmp 2) (.tmp 76) rfl w.heap.size 25 #[.int .i64 0, .slice none 0 0, .bool false, .bool false, .bool false] #[.int .i64 0, .slice none 0 0, .bool false, .bool false, .bool false] rfl rfl HQ.out.rb rfl infoS (by simp [Value.oneCell']) ?_; intro w5 hR5 hg5 hs5)
                have hl5 := hR5.cell
                have HB5 : Below w.heap.size w w5 := HQ.out.bel.grown hg5 HQ.out.bel.size (by intro k hk; cases hk; omega)
                exact bodyPost_ret (v := .tuple #[.agg #[.int .i64 0, .slice none 0 0, .bool false, .bool false, .bool false], .int .i64 3]) (by simp [results, Tryd.results18, go_sem, hl5]) rfl (.inr ⟨nogot_none HNW.out (HGG.out.trans HN.out), rfl, HB5⟩)
end Go.Proofs.YtakgblgbfbpmoaaDoor
