/- Several texts in one: bilgeref24.Get: what bytes tell, said by the document. -/
import Derived.Test.YtakgblgbfbpmoaaDoorMV
import Derived.Test.YtakgblgbfbpmoaaDoorMX
namespace Go.Proofs.YtakgblgbfbpmoaaDoor
open Go.RowKit

section
variable {P : Program} {md : Region.Mode} {ops : Array Oper} {Q : Exit → Act → World → Prop} {S : World → Prop} {fuel : Nat} {listed : Array Bool} {a : Act} {w : World}
/-- a store of a part of a struct, in a region that draws its order: the world behind it has a name -/
theorem held_storeAt (i : Nat) {oi : Oper} (hi : ops[i]? = some oi) (hr : Region.ready md ops listed = [i]) (hw : Region.wanted oi (yielded ops a.tmps) = true) (ty : TypeId) (x y : Operand) (ho : oi.op = .store ty x y)
    (g off : Nat) (t : TypeId) (cur cells new : Array Value) (hx : a.eval x = .pointer (some ⟨g, off, none⟩)) (hy : a.eval y = .agg cells)
    (hb : Blk w g t cur) (hs : off + cells.size ≤ cur.size) (hn : (P.info? ty).map (·.size) = some cells.size) (h1 : cells.all (·.oneCell') = true)
    (hnew : (cur.toList.take off ++ cells.toList ++ cur.toList.drop (off + cells.toList.length)).toArray = new)
    (h : ∀ w', Blk w' g t new → w.grownBy w' (some g) → w'.heap.size = w.heap.size → S w' ∧ wpAnyH P md ops Q S fuel (listed.setIfInBounds i true) (a.put oi.dst undef) w') : wpAnyH P md ops Q S (fuel + 1) listed a w := by
  have hth : w.there g off cells.size := fun j hj => ⟨by rw [hb.cell (off + j), Array.getElem?_eq_getElem (by omega)]; rfl, hb.frozen (off + j)⟩
  obtain ⟨h2, h3, h4⟩ := setCells_blk g t cells.toList off w cur.toList (by simp; omega) (by simpa using hb)
  rw [hnew] at h2
  obtain ⟨s1, s2⟩ := h _ h2 h3 h4
  exact held_op i hi hr hw fun K hK => wp_store_mid ty x y ho g off cells hx hy hth hn h1 (hK undef _ s1 s2)
end
theorem infoB3 : (Tryd.prog.info? 23).map (·.size) = some 3 := by kernel_rfl
theorem byAt {W : World} {b off i : Nat} {l : List UInt8} (h : Rds W encB (some ⟨b, off, none⟩) l) (hi : i < l.length) : W.cell? ⟨b, off + i, none⟩ = some (.int .u8 (l.getD i 0).toNat) := by
  obtain ⟨b', off', e, _, hc⟩ := h (by intro e; subst e; simp at hi)
  cases e
  exact hc i _ (by rw [encB_all, List.getElem?_map, List.getD_eq_getElem?_getD, List.getElem?_eq_getElem hi]; rfl)
theorem byteIs {W : World} {b off i : Nat} {y : UInt8} {l : List UInt8} (h : Rds W encB (some ⟨b, off, none⟩) l) (hy : l.getD i 0 = y) (hi : i < l.length) : W.cell? ⟨b, off + i, none⟩ = some (.int .u8 y.toNat) := hy ▸ byAt h hi
theorem entsD_len : ∀ (k : Nat) (m : List UInt8) (l : List En) (t : List UInt8), entsD k m = some (l, t) → l.length = k
  | 0, m, l, t, h => by simp only [entsD, Option.some.injEq, Prod.mk.injEq] at h; rw [← h.1]; rfl
  | k + 1, [], l, t, h => by simp [entsD] at h
  | k + 1, x :: m, l, t, h => by
    cases hc : cutOf m with
    | none => rw [entsD_bad (.inr ⟨x, m, rfl, hc⟩)] at h; cases h
    | some q =>
      obtain ⟨p, r⟩ := q
      rw [entsD_go (k := k) (x := x) (z := ⟨p, (x.toNat : Int)⟩) hc rfl] at h
      cases he : entsD k r with
      | none => rw [he] at h; cases h
      | some q =>
        obtain ⟨es, r'⟩ := q
        rw [he] at h
        simp only [Option.map_some, Option.some.injEq, Prod.mk.injEq] at h
        rw [← h.1, List.length_cons, entsD_len k r es r' he]
theorem got_head {l : List UInt8} {rd : Int} {o0 o1 o2 : Bool} {es : List En} (h : GotD l rd o0 o1 o2 es) : (l.getD 0 0).toNat = 0 ∧ (l.getD 1 0).toNat = 0 ∧ (l.getD 9 0).toNat ≤ 64 := by
  have h1 := h.er
  have h2 := h.rt.lo
  have h3 := h.rt.hi
  have h4 := entsD_len _ _ _ _ h.ents
  have h5 := h.rt.len
  rw [wrap_eq] at h1
  simp only [beTo] at h1
  unfold wrap64 at h1
  have b0 := (l.getD 0 0).toNat_lt
  have b1 := (l.getD 1 0).toNat_lt
  have b2 := (l.getD 2 0).toNat_lt
  have b3 := (l.getD 3 0).toNat_lt
  have b4 := (l.getD 4 0).toNat_lt
  have b5 := (l.getD 5 0).toNat_lt
  have b6 := (l.getD 6 0).toNat_lt
  have b7 := (l.getD 7 0).toNat_lt
  omega
theorem beTo_lim {l : List UInt8} {y0 y1 : UInt8} {k : Nat} (e0 : l.getD 0 0 = y0) (e1 : l.getD 1 0 = y1) (h0 : y0.toNat ≤ 0) (h1 : y1.toNat ≤ 0) (hk : k ≤ 8) : 0 ≤ beTo l k ∧ beTo l k < 281474976710656 := by
  rw [← e0] at h0
  rw [← e1] at h1
  have b2 := (l.getD 2 0).toNat_lt
  have b3 := (l.getD 3 0).toNat_lt
  have b4 := (l.getD 4 0).toNat_lt
  have b5 := (l.getD 5 0).toNat_lt
  have b6 := (l.getD 6 0).toNat_lt
  have b7 := (l.getD 7 0).toNat_lt
  obtain rfl | rfl | rfl | rfl | rfl | rfl | rfl | rfl | rfl : k = 0 ∨ k = 1 ∨ k = 2 ∨ k = 3 ∨ k = 4 ∨ k = 5 ∨ k = 6 ∨ k = 7 ∨ k = 8 := by omega
  all_goals simp only [beTo]
  all_goals omega
theorem bitR0 (y : UInt8) : ((y.toNat : Int) % 2 == 1) = bitD y 0 := by
  unfold bitD
  rw [Bool.eq_iff_iff]; simp; omega
theorem bitR1 (y : UInt8) : ((y.toNat : Int) / 2 % 2 == 1) = bitD y 1 := by
  unfold bitD
  rw [Bool.eq_iff_iff]; simp; omega
theorem bitR2 (y : UInt8) (h : y.toNat ≤ 7) : ((y.toNat : Int) / 4 == 1) = bitD y 2 := by
  unfold bitD
  rw [Bool.eq_iff_iff]; simp; omega
theorem modY (y : UInt8) : (y.toNat : Int).tmod 2 = (y.toNat : Int) % 2 := Int.tmod_eq_emod_of_nonneg (by omega)
theorem modY2 (y : UInt8) : ((y.toNat : Int) / 2).tmod 2 = (y.toNat : Int) / 2 % 2 := Int.tmod_eq_emod_of_nonneg (by omega)
theorem divY2 (y : UInt8) : IntKind.u8.wrap ((y.toNat : Int) / 2) = (y.toNat : Int) / 2 := by have := y.toNat_lt; rw [IntKind.wrap_u8]; omega
theorem divY4 (y : UInt8) : IntKind.u8.wrap ((y.toNat : Int) / 4) = (y.toNat : Int) / 4 := by have := y.toNat_lt; rw [IntKind.wrap_u8]; omega
theorem wrapY (y : UInt8) : IntKind.i64.wrap (y.toNat : Int) = (y.toNat : Int) := by have := y.toNat_lt; rw [IntKind.wrap_i64]; omega
theorem rds_nil {W : World} {A : Option Addr} {l : List UInt8} (h : l = []) : Rds W encB A l := fun hn => absurd h hn
theorem GotBad {G : Option (List En × List UInt8)} {N i : Nat} {ES : List En} {m : List UInt8} (h : GotTo G N i ES m false) (hi : i < N) (hc : m = [] ∨ ∃ x m1, m = x :: m1 ∧ cutOf m1 = none) : G = none := by
  obtain ⟨k, hk⟩ : ∃ k, N - i = k + 1 := ⟨N - i - 1, by omega⟩
  rcases h with ⟨_, _, h⟩ | ⟨h, _⟩
  · rw [h, hk, entsD_bad hc]; rfl
  · cases h
theorem GotYes {G : Option (List En × List UInt8)} {N i : Nat} {ES : List En} {m m1 r : List UInt8} {x : UInt8} {z : En} (h : GotTo G N i ES m false) (hi : i < N) (hm : m = x :: m1) (hc : cutOf m1 = some (z.pod, r)) (hz : z.phase = (x.toNat : Int)) : GotTo G N (i + 1) (ES ++ [z]) r false :=
  GotNext h (.inl ⟨rfl, rfl, x, m1, hm, hc, hz⟩) hi
theorem drop_one {l : List UInt8} {i j : Nat} {x : UInt8} (hx : l.getD i 0 = x) (hi : i < l.length) (hj : j = i + 1) : l.drop i = x :: l.drop j := by
  rw [hj, List.drop_eq_getElem_cons hi, ← hx, List.getD_eq_getElem?_getD, List.getElem?_eq_getElem hi]; rfl
theorem refCutN_none {n : Nat} {l : List UInt8} (hn : l.length = n) (A : Option Addr) (c : Nat) (w : World) (hr : Rds w encB A l) (hc : l.length ≤ c) (hm : c ≤ 9223372036854775807) (hbd : l.length ≤ 140737488355328) (h : cutOf l = none) :
    Calls Tryd.prog 38 #[.slice A n c] w fun e w' => e = .returned (.tuple #[.agg zeroPod, .int .i64 0]) ∧ Below w.heap.size w w' := by
  subst hn
  exact (refCut_any A c l w hr hc hm hbd).mono fun e w' hp => by
    rcases hp with ⟨p', r', h', _⟩ | ⟨_, he, hb⟩
    · rw [h] at h'; cases h'
    · exact ⟨he, hb⟩
theorem refCutN_some {p : Pd} {rest : List UInt8} {N n : Nat} {l : List UInt8} (hn : l.length = n) (A : Option Addr) (c : Nat) (w : World) (hr : Rds w encB A l) (hc : l.length ≤ c) (hm : c ≤ 9223372036854775807) (hbd : l.length ≤ 140737488355328) (h : cutOf l = some (p, rest)) (hN : p.bytes.length = N) :
    Calls Tryd.prog 38 #[.slice A n c] w fun e w' => e = .returned (.tuple #[.agg p.cells, .int .i64 (N : Int)]) ∧ Below w.heap.size w w' := by
  subst hn
  exact (refCut_any A c l w hr hc hm hbd).mono fun e w' hp => by
    rcases hp with ⟨p', r', h', he, hb⟩ | ⟨h', _⟩
    · rw [h] at h'; injection h' with h'; injection h' with h1 h2; subst h1; subst h2
      have hl := congrArg List.length (cut_put h).2.2
      rw [List.length_append, hN] at hl
      rw [he, show l.length - rest.length = N by omega]
      exact ⟨rfl, hb⟩
    · rw [h] at h'; cases h'
/-- what the document's Get answers -/
def RGetPost (l : List UInt8) (w : World) (e : Ending) (w' : World) : Prop :=
  (∃ (rd : Int) (o0 o1 o2 : Bool) (es : List En) (A : Option Addr) (c : Nat), GotD l rd o0 o1 o2 es ∧ e = .returned (.tuple #[.agg #[.int .i64 rd, .slice A es.length c, .bool o0, .bool o1, .bool o2], .bool true]) ∧ Own w' w.heap.size 46 encN (.slice A es.length c) es ∧ Below w.heap.size w w') ∨
  ((∀ rd o0 o1 o2 es, ¬ GotD l rd o0 o1 o2 es) ∧ e = .returned (.tuple #[.agg #[.int .i64 0, .slice none 0 0, .bool false, .bool false, .bool false], .bool false]) ∧ Below w.heap.size w w')
structure RgQ (z : Int) (A1 : Option Addr) (n1 c1 : Nat) (o0 o1 o2 : Bool) (w W : World) : Prop where
  rb : Blk W w.heap.size 25 #[.int .i64 0, .slice none 0 0, .bool false, .bool false, .bool false]
  sb : Blk W (w.heap.size + 1) 25 #[.int .i64 z, .slice A1 n1 c1, .bool o0, .bool o1, .bool o2]
  bel : Below w.heap.size w W
section
variable {z z' : Int} {A1 : Option Addr} {n1 c1 : Nat} {o0 o1 o2 : Bool} {w W W' : World}
theorem RgQ.drew (h : RgQ z A1 n1 c1 o0 o1 o2 w W) : RgQ z A1 n1 c1 o0 o1 o2 w W.drew := ⟨h.rb.drew, h.sb.drew, h.bel.drew⟩
theorem RgQ.below (h : RgQ z A1 n1 c1 o0 o1 o2 w W) (hb : Below W.heap.size W W') : RgQ z A1 n1 c1 o0 o1 o2 w W' := ⟨h.rb.belowAll hb, h.sb.belowAll hb, h.bel.trans (hb.mono h.bel.size)⟩
theorem RgQ.app (h : RgQ z A1 n1 c1 o0 o1 o2 w W) {row : Option Nat} (hg : W.grownBy W' row) (h0 : ∀ k, row = some k → w.heap.size + 1 < k) : RgQ z A1 n1 c1 o0 o1 o2 w W' :=
  ⟨h.rb.grown hg (by intro e; have := h0 _ e.symm; omega), h.sb.grown hg (by intro e; have := h0 _ e.symm; omega), h.bel.grown hg h.bel.size (by intro k hk; have := h0 _ hk; omega)⟩
theorem RgQ.put {A2 : Option Addr} {n2 c2 : Nat} {p0 p1 p2 : Bool} (h : RgQ z A1 n1 c1 o0 o1 o2 w W) (hN : Blk W' (w.heap.size + 1) 25 #[.int .i64 z', .slice A2 n2 c2, .bool p0, .bool p1, .bool p2]) (hg : W.grownBy W' (some (w.heap.size + 1))) : RgQ z' A2 n2 c2 p0 p1 p2 w W' :=
  ⟨h.rb.grown hg (by intro e; injection e with e; omega), hN, h.bel.grown hg h.bel.size (by intro k hk; injection hk with hk; omega)⟩
theorem RgQ.set (h : RgQ z A1 n1 c1 o0 o1 o2 w W) {A2 : Option Addr} {n2 c2 : Nat} {p0 p1 p2 : Bool} (i : Nat) (u : Value) (hs : (#[.int .i64 z, .slice A1 n1 c1, .bool o0, .bool o1, .bool o2] : Array Value).setIfInBounds i u = #[.int .i64 z', .slice A2 n2 c2, .bool p0, .bool p1, .bool p2]) : RgQ z' A2 n2 c2 p0 p1 p2 w (W.setCell ⟨w.heap.size + 1, i, none⟩ u) :=
  h.put (hs ▸ h.sb.set_ i u) (grownBy_setCell W (w.heap.size + 1) i u)
theorem RgQ.apart {g : Nat} {cs : Array Value} (h : RgQ z A1 n1 c1 o0 o1 o2 w W) (hp : Blk W g 44 cs) : g ≠ w.heap.size + 1 := by
  rintro rfl
  have h1 := h.sb
  unfold Blk at h1 hp
  rw [h1] at hp
  injection hp with hp
  injection hp with _ hp
  exact absurd hp (by decide)
end
set_option maxRecDepth 100000 in
set_option maxHeartbeats 16000000 in
theorem refGet24_any (l : List UInt8) (A : Option Addr) (c : Nat) (w : World) (hr : Rds w encB A l) (hlc : l.length ≤ c) (hcm : c ≤ 9223372036854775807) (hbd : l.length ≤ 140737488355328) :
    Calls Tryd.prog 19 #[.slice A l.length c] w (RGetPost l w) := by
  have mixed : Tryd.prog.follows Departure.mixedOrders = true := by kernel_rfl
  have HR0 := Lib.hid (Blk.new w 25 #[.int .i64 0, .slice none 0 0, .bool false, .bool false, .bool false])
  have HB0 := Lib.hid ((Below.refl w.heap.size w).alloc (Nat.le_refl _) (.cells #[.int .i64 0, .slice none 0 0, .bool false, .bool false, .bool false] 25))
  have H0 := Lib.hid hr
  by_cases h10 : l.length < 10
  · have d10 : decide ((l.length : Int) < 10) = true := decide_eq_true (by omega)
    have HNG := Lib.hid (show ∀ rd o0 o1 o2 es, ¬ GotD l rd o0 o1 o2 es from fun rd o0 o1 o2 es h => by have := h.len; omega)
    clear h10 hr
    go_enter Tryd.func19, Tryd.ntmps19
    go_wp2_with (refine wl_store_blk rfl 25 (.tmp 2) (.tmp 37) rfl w.heap.size 25 #[.int .i64 0, .slice none 0 0, .bool false, .bool false, .bool false] #[.int .i64 0, .slice none 0 0, .bool false, .bool false, .bool false] rfl rfl HR0.out rfl infoS (by simp [Value.oneCell']) ?_; intro w5 hR5 hg5 hs5)
    have hl5 := hR5.cell
    have HB5 : Below w.heap.size w w5 := HB0.out.grown hg5 HB0.out.size (by intro k hk; cases hk; omega)
    exact bodyPost_ret (v := .tuple #[.agg #[.int .i64 0, .slice none 0 0, .bool false, .bool false, .bool false], .bool false]) (by simp [results, Tryd.results19, go_sem, hl5]) rfl (.inr ⟨HNG.out, rfl, HB5⟩)
  · have d10 : decide ((l.length : Int) < 10) = false := decide_eq_false (by omega)
    obtain ⟨b, off, rfl, hb, -⟩ := hr (by intro e; rw [e] at h10; simp at h10)
    obtain ⟨y0, hy0⟩ : ∃ y, l.getD 0 0 = y := ⟨_, rfl⟩
    have HY0 := Lib.hid hy0
    have k0 : (w.alloc (.cells #[.int .i64 0, .slice none 0 0, .bool false, .bool false, .bool false] 25)).cell? ⟨b, off, none⟩ = some (.int .u8 y0.toNat) := by have := byAt (i := 0) (H0.out.below HB0.out) (by omega); rw [hy0] at this; simpa using this
    have n0 : 0 < l.length := by omega
    have m0 : (0 : Int) < (l.length : Int) := by omega
    clear hy0
    obtain ⟨y1, hy1⟩ : ∃ y, l.getD 1 0 = y := ⟨_, rfl⟩
    have HY1 := Lib.hid hy1
    have k1 : (w.alloc (.cells #[.int .i64 0, .slice none 0 0, .bool false, .bool false, .bool false] 25)).cell? ⟨b, off + 1, none⟩ = some (.int .u8 y1.toNat) := by have := byAt (i := 1) (H0.out.below HB0.out) (by omega); rw [hy1] at this; simpa using this
    have n1 : 1 < l.length := by omega
    have m1 : (1 : Int) < (l.length : Int) := by omega
    clear hy1
    obtain ⟨y8, hy8⟩ : ∃ y, l.getD 8 0 = y := ⟨_, rfl⟩
    have HY8 := Lib.hid hy8
    have k8 : (w.alloc (.cells #[.int .i64 0, .slice none 0 0, .bool false, .bool false, .bool false] 25)).cell? ⟨b, off + 8, none⟩ = some (.int .u8 y8.toNat) := by have := byAt (i := 8) (H0.out.below HB0.out) (by omega); rw [hy8] at this; simpa using this
    have n8 : 8 < l.length := by omega
    have m8 : (8 : Int) < (l.length : Int) := by omega
    clear hy8
    obtain ⟨y9, hy9⟩ : ∃ y, l.getD 9 0 = y := ⟨_, rfl⟩
    have HY9 := Lib.hid hy9
    have k9 : (w.alloc (.cells #[.int .i64 0, .slice none 0 0, .bool false, .bool false, .bool false] 25)).cell? ⟨b, off + 9, none⟩ = some (.int .u8 y9.toNat) := by have := byAt (i := 9) (H0.out.below HB0.out) (by omega); rw [hy9] at this; simpa using this
    have n9 : 9 < l.length := by omega
    have m9 : (9 : Int) < (l.length : Int) := by omega
    clear hy9
    by_cases c0 : 0 < y0.toNat
    · have e0 : decide ((0 : Int) < (y0.toNat : Int)) = true := decide_eq_true (by omega)
      have f0 : decide (0 < y0.toNat) = true := decide_eq_true c0
      have HNG := Lib.hid (show ∀ rd o0 o1 o2 es, ¬ GotD l rd o0 o1 o2 es from fun rd o0 o1 o2 es h => by have := (got_head h).1; rw [HY0.out] at this; omega)
      clear c0
      go_enter Tryd.func19, Tryd.ntmps19
      go_wp2_with (refine wl_store_blk rfl 25 (.tmp 2) (.tmp 37) rfl w.heap.size 25 #[.int .i64 0, .slice none 0 0, .bool false, .bool false, .bool false] #[.int .i64 0, .slice none 0 0, .bool false, .bool false, .bool false] rfl rfl HR0.out rfl infoS (by simp [Value.oneCell']) ?_; intro w5 hR5 hg5 hs5)
      have hl5 := hR5.cell
      have HB5 : Below w.heap.size w w5 := HB0.out.grown hg5 HB0.out.size (by intro k hk; cases hk; omega)
      exact bodyPost_ret (v := .tuple #[.agg #[.int .i64 0, .slice none 0 0, .bool false, .bool false, .bool false], .bool false]) (by simp [results, Tryd.results19, go_sem, hl5]) rfl (.inr ⟨HNG.out, rfl, HB5⟩)
    · have e0 : decide ((0 : Int) < (y0.toNat : Int)) = false := decide_eq_false (by omega)
      have f0 : decide (0 < y0.toNat) = false := decide_eq_false c0
      have u0 : y0.toNat ≤ 0 := by omega
      clear c0
      by_cases c1 : 0 < y1.toNat
      · have e1 : decide ((0 : Int) < (y1.toNat : Int)) = true := decide_eq_true (by omega)
        have f1 : decide (0 < y1.toNat) = true := decide_eq_true c1
        have HNG := Lib.hid (show ∀ rd o0 o1 o2 es, ¬ GotD l rd o0 o1 o2 es from fun rd o0 o1 o2 es h => by have := (got_head h).2.1; rw [HY1.out] at this; omega)
        clear c1
        go_enter Tryd.func19, Tryd.ntmps19
        go_wp2_with (refine wl_store_blk rfl 25 (.tmp 2) (.tmp 37) rfl w.heap.size 25 #[.int .i64 0, .slice none 0 0, .bool false, .bool false, .bool false] #[.int .i64 0, .slice none 0 0, .bool false, .bool false, .bool false] rfl rfl HR0.out rfl infoS (by simp [Value.oneCell']) ?_; intro w5 hR5 hg5 hs5)
        have hl5 := hR5.cell
        have HB5 : Below w.heap.size w w5 := HB0.out.grown hg5 HB0.out.size (by intro k hk; cases hk; omega)
        exact bodyPost_ret (v := .tuple #[.agg #[.int .i64 0, .slice none 0 0, .bool false, .bool false, .bool false], .bool false]) (by simp [results, Tryd.results19, go_sem, hl5]) rfl (.inr ⟨HNG.out, rfl, HB5⟩)
      · have e1 : decide ((0 : Int) < (y1.toNat : Int)) = false := decide_eq_false (by omega)
        have f1 : decide (0 < y1.toNat) = false := decide_eq_false c1
        have u1 : y1.toNat ≤ 0 := by omega
        clear c1
        by_cases c8 : 7 < y8.toNat
        · have e8 : decide ((7 : Int) < (y8.toNat : Int)) = true := decide_eq_true (by omega)
          have f8 : decide (7 < y8.toNat) = true := decide_eq_true c8
          have HNG := Lib.hid (show ∀ rd o0 o1 o2 es, ¬ GotD l rd o0 o1 o2 es from fun rd o0 o1 o2 es h => by have := h.on; rw [HY8.out] at this; omega)
          clear c8
          go_enter Tryd.func19, Tryd.ntmps19
          go_wp2_with (refine wl_store_blk rfl 25 (.tmp 2) (.tmp 37) rfl w.heap.size 25 #[.int .i64 0, .slice none 0 0, .bool false, .bool false, .bool false] #[.int .i64 0, .slice none 0 0, .bool false, .bool false, .bool false] rfl rfl HR0.out rfl infoS (by simp [Value.oneCell']) ?_; intro w5 hR5 hg5 hs5)
          have hl5 := hR5.cell
          have HB5 : Below w.heap.size w w5 := HB0.out.grown hg5 HB0.out.size (by intro k hk; cases hk; omega)
          exact bodyPost_ret (v := .tuple #[.agg #[.int .i64 0, .slice none 0 0, .bool false, .bool false, .bool false], .bool false]) (by simp [results, Tryd.results19, go_sem, hl5]) rfl (.inr ⟨HNG.out, rfl, HB5⟩)
        · have e8 : decide ((7 : Int) < (y8.toNat : Int)) = false := decide_eq_false (by omega)
          have f8 : decide (7 < y8.toNat) = false := decide_eq_false c8
          have u8 : y8.toNat ≤ 7 := by omega
          clear c8
          by_cases c9 : 64 < y9.toNat
          · have e9 : decide ((64 : Int) < (y9.toNat : Int)) = true := decide_eq_true (by omega)
            have f9 : decide (64 < y9.toNat) = true := decide_eq_true c9
            have HNG := Lib.hid (show ∀ rd o0 o1 o2 es, ¬ GotD l rd o0 o1 o2 es from fun rd o0 o1 o2 es h => by have := (got_head h).2.2; rw [HY9.out] at this; omega)
            clear c9
            go_enter Tryd.func19, Tryd.ntmps19
            go_wp2_with (refine wl_store_blk rfl 25 (.tmp 2) (.tmp 37) rfl w.heap.size 25 #[.int .i64 0, .slice none 0 0, .bool false, .bool false, .bool false] #[.int .i64 0, .slice none 0 0, .bool false, .bool false, .bool false] rfl rfl HR0.out rfl infoS (by simp [Value.oneCell']) ?_; intro w5 hR5 hg5 hs5)
            have hl5 := hR5.cell
            have HB5 : Below w.heap.size w w5 := HB0.out.grown hg5 HB0.out.size (by intro k hk; cases hk; omega)
            exact bodyPost_ret (v := .tuple #[.agg #[.int .i64 0, .slice none 0 0, .bool false, .bool false, .bool false], .bool false]) (by simp [results, Tryd.results19, go_sem, hl5]) rfl (.inr ⟨HNG.out, rfl, HB5⟩)
          · have e9 : decide ((64 : Int) < (y9.toNat : Int)) = false := decide_eq_false (by omega)
            have f9 : decide (64 < y9.toNat) = false := decide_eq_false c9
            have u9 : y9.toNat ≤ 64 := by omega
            clear c9
            have HQ : Hid (RgQ 0 none 0 0 false false false w ((w.alloc (.cells #[.int .i64 0, .slice none 0 0, .bool false, .bool false, .bool false] 25)).alloc (.cells #[.int .i64 0, .slice none 0 0, .bool false, .bool false, .bool false] 25))) := by
              have z1 : (w.alloc (.cells #[.int .i64 0, .slice none 0 0, .bool false, .bool false, .bool false] 25)).heap.size = w.heap.size + 1 := by simp
              have b1 := Blk.new (w.alloc (.cells #[.int .i64 0, .slice none 0 0, .bool false, .bool false, .bool false] 25)) 25 #[.int .i64 0, .slice none 0 0, .bool false, .bool false, .bool false]
              rw [z1] at b1
              exact ⟨HR0.out.alloc _, b1, HB0.out.alloc (by simp) _⟩
            have HU := Lib.hid (And.intro u0 (And.intro u1 (And.intro u8 u9)))
            clear u0 u1 u8 u9 hr
            go_enter Tryd.func19, Tryd.ntmps19
            go_wp2_with fail
            clear k0 k1 k8 k9 d10 e0 e1 e8 e9 f0 f1 f8 f9 n0 n1 n8 n9 m0 m1 m8 m9
            generalize ((w.alloc (.cells #[.int .i64 0, .slice none 0 0, .bool false, .bool false, .bool false] 25)).alloc (.cells #[.int .i64 0, .slice none 0 0, .bool false, .bool false, .bool false] 25)) = w1 at *
            go_loopw [5] (fun ii wr => ∃ k : Nat, k ≤ 8 ∧ ii = .int .i64 k ∧ RgQ (beTo l k) none 0 0 false false false w wr) (fun ii _ => 8 - (intOf ii).toNat)
            case atStart => exact ⟨0, by omega, rfl, by have h := HQ.out; simpa [beTo] using h⟩
            case round =>
              clear HQ
              obtain ⟨k, hk, rfl, hq⟩ := hrel
              have HQ := Lib.hid hq
              clear hq
              by_cases hlt : k < 8
              · have dk : decide ((k : Int) < 8) = true := decide_eq_true (by omega)
                obtain ⟨y, hy⟩ : ∃ y, l.getD k 0 = y := ⟨_, rfl⟩
                have HYK := Lib.hid hy
                have hk9 : k < l.length := by omega
                have hk9i : (k : Int) < (l.length : Int) := by omega
                have HZ := Lib.hid (beTo_lim HY0.out HY1.out HU.out.1 HU.out.2.1 hk)
                have HZ1 : Hid (beTo l (k + 1) = 256 * beTo l k + (y.toNat : Int)) := by rw [← hy]; rfl
                clear hy
                obtain ⟨z, hz⟩ : ∃ z, beTo l k = z := ⟨_, rfl⟩
                rw [hz] at HQ HZ HZ1
                obtain ⟨z1, hz1⟩ : ∃ z, beTo l (k + 1) = z := ⟨_, rfl⟩
                rw [hz1] at HZ1
                have HZZ := Lib.hid hz1
                clear hz hz1
                have hyl := y.toNat_lt
                have HW1 := Lib.hid (show IntKind.i64.wrap (256 * z) = 256 * z ∧ IntKind.i64.wrap (256 * z + (y.toNat : Int)) = z1 by rw [IntKind.wrap_i64, IntKind.wrap_i64, HZ1.out]; have := HZ.out; omega)
                clear hyl
                go_wp2_with fail
                have HQ := Lib.hid HQ.out.drew
                refine wp_region_held_drew (S := fun w' => w'.cell? ⟨b, off + k, none⟩ = some (.int .u8 y.toNat)) (by kernel_rfl) (byteIs (H0.out.below HQ.out.bel) HYK.out hk9) (fun hHeld => ?_)
                refine held_take 0 42 (.pointer (some ⟨(w.heap.size + 1), 0, none⟩)) rfl rfl (by kernel_rfl) (by kernel_rfl) (by kernel_rfl) (fun _ _ _ h => h) (by rfl) (by intro w' hSw; (try dsimp only at hSw); go_simp; (try (with_reducible rfl))) (by assumption) ?_
                simp only [Act.put, List.setIfInBounds_toArray, List.set_cons_zero, List.set_cons_succ]
                refine held_take 3 45 (.slice (some ⟨b, off, none⟩) l.length c) rfl rfl (by kernel_rfl) (by kernel_rfl) (by kernel_rfl) (fun _ _ _ h => h) (by rfl) (by intro w' hSw; (try dsimp only at hSw); go_simp; (try (with_reducible rfl))) (by assumption) ?_
                simp only [Act.put, List.setIfInBounds_toArray, List.set_cons_zero, List.set_cons_succ]
                refine held_take 4 46 (.int .i64 k) rfl rfl (by kernel_rfl) (by kernel_rfl) (by kernel_rfl) (fun _ _ _ h => h) (by rfl) (by intro w' hSw; (try dsimp only at hSw); go_simp; (try (with_reducible rfl))) (by assumption) ?_
                simp only [Act.put, List.setIfInBounds_toArray, List.set_cons_zero, List.set_cons_succ]
                refine held_take 5 47 (.pointer (some ⟨b, off + k, none⟩)) rfl rfl (by kernel_rfl) (by kernel_rfl) (by kernel_rfl) (fun _ _ _ h => h) (by rfl) (by intro w' hSw; (try dsimp only at hSw); go_simp; (try (with_reducible rfl))) (by assumption) ?_
                simp only [Act.put, List.setIfInBounds_toArray, List.set_cons_zero, List.set_cons_succ]
                refine held_take 6 48 (.int .u8 y.toNat) rfl rfl (by kernel_rfl) (by kernel_rfl) (by kernel_rfl) (fun _ _ _ h => h) (by rfl) (by intro w' hSw; (try dsimp only at hSw); go_simp; (try (with_reducible rfl))) (by assumption) ?_
                simp only [Act.put, List.setIfInBounds_toArray, List.set_cons_zero, List.set_cons_succ]
                refine held_take 7 49 (.int .i64 y.toNat) rfl rfl (by kernel_rfl) (by kernel_rfl) (by kernel_rfl) (fun _ _ _ h => h) (by rfl) (by intro w' hSw; (try dsimp only at hSw); go_simp; (first | done | with_reducible rfl | (exact wrapY y))) (by assumption) ?_
                simp only [Act.put, List.setIfInBounds_toArray, List.set_cons_zero, List.set_cons_succ]
                refine held_call 1 43 rfl rfl (by kernel_rfl) (by rfl) (fun K hK => ?_)
                have cs := HQ.out.sb.cell
                go_simp
                refine hK _ _ (byteIs (H0.out.below HQ.out.bel) HYK.out hk9) ?_
                have hHeld := (byteIs (H0.out.below HQ.out.bel) HYK.out hk9)
                clear hK K
                simp only [Act.put, List.setIfInBounds_toArray, List.set_cons_zero, List.set_cons_succ]
                clear cs
                refine held_take 2 44 (.int .i64 (256 * z)) rfl rfl (by kernel_rfl) (by kernel_rfl) (by kernel_rfl) (fun _ _ _ h => h) (by rfl) (by intro w' hSw; (try dsimp only at hSw); go_simp; (first | done | with_reducible rfl | (exact HW1.out.1))) (by assumption) ?_
                simp only [Act.put, List.setIfInBounds_toArray, List.set_cons_zero, List.set_cons_succ]
                refine held_take 8 50 (.int .i64 z1) rfl rfl (by kernel_rfl) (by kernel_rfl) (by kernel_rfl) (fun _ _ _ h => h) (by rfl) (by intro w' hSw; (try dsimp only at hSw); go_simp; (first | done | with_reducible rfl | (exact HW1.out.2))) (by assumption) ?_
                simp only [Act.put, List.setIfInBounds_toArray, List.set_cons_zero, List.set_cons_succ]
                refine held_take 9 51 (.pointer (some ⟨(w.heap.size + 1), 0, none⟩)) rfl rfl (by kernel_rfl) (by kernel_rfl) (by kernel_rfl) (fun _ _ _ h => h) (by rfl) (by intro w' hSw; (try dsimp only at hSw); go_simp; (try (with_reducible rfl))) (by assumption) ?_
                simp only [Act.put, List.setIfInBounds_toArray, List.set_cons_zero, List.set_cons_succ]
                refine held_op 10 rfl (by kernel_rfl) (by rfl) (fun K hK => ?_)
                have cs := HQ.out.sb.cell
                have fs := HQ.out.sb.frozen
                go_simp
                have HQ := Lib.hid (HQ.out.set (z' := z1) 0 _ rfl)
                refine hK undef _ (byteIs (H0.out.below HQ.out.bel) HYK.out hk9) ?_
                clear hK K cs fs
                simp only [Act.put, List.setIfInBounds_toArray]
                refine wpAnyH_done (by kernel_rfl) ?_ _
                clear hHeld
                go_wp2_with fail
                go_roundw
                case rel => exact ⟨k + 1, by omega, by go_num, by rw [HZZ.out]; exact HQ.out⟩
                case measure => simp [intOf]; omega
              · obtain rfl : k = 8 := by omega
                have HZ := Lib.hid (beTo_lim HY0.out HY1.out HU.out.1 HU.out.2.1 (k := 8) (by omega))
                obtain ⟨z8, hz8⟩ : ∃ z, beTo l 8 = z := ⟨_, rfl⟩
                rw [hz8] at HQ HZ
                have HZ8 := Lib.hid hz8
                clear hz8
                have hn8 : 8 < l.length := by omega
                have hn8i : (8 : Int) < (l.length : Int) := by omega
                go_wp2_with fail
                have HQ := Lib.hid HQ.out.drew
                refine wp_region_held_drew (S := fun w' => w'.cell? ⟨b, off + 8, none⟩ = some (.int .u8 y8.toNat)) (by kernel_rfl) (byteIs (H0.out.below HQ.out.bel) HY8.out hn8) (fun hHeld => ?_)
                refine held_take 0 52 (.slice (some ⟨b, off, none⟩) l.length c) rfl rfl (by kernel_rfl) (by kernel_rfl) (by kernel_rfl) (fun _ _ _ h => h) (by rfl) (by intro w' hSw; (try dsimp only at hSw); go_simp; (try (with_reducible rfl))) (by assumption) ?_
                simp only [Act.put, List.setIfInBounds_toArray, List.set_cons_zero, List.set_cons_succ]
                refine held_take 1 53 (.pointer (some ⟨b, off + 8, none⟩)) rfl rfl (by kernel_rfl) (by kernel_rfl) (by kernel_rfl) (fun _ _ _ h => h) (by rfl) (by intro w' hSw; (try dsimp only at hSw); go_simp; (try (with_reducible rfl))) (by assumption) ?_
                simp only [Act.put, List.setIfInBounds_toArray, List.set_cons_zero, List.set_cons_succ]
                refine held_take 2 54 (.int .u8 y8.toNat) rfl rfl (by kernel_rfl) (by kernel_rfl) (by kernel_rfl) (fun _ _ _ h => h) (by rfl) (by intro w' hSw; (try dsimp only at hSw); go_simp; (try (with_reducible rfl))) (by assumption) ?_
                simp only [Act.put, List.setIfInBounds_toArray, List.set_cons_zero, List.set_cons_succ]
                refine held_take 5 57 (.slice (some ⟨b, off, none⟩) l.length c) rfl rfl (by kernel_rfl) (by kernel_rfl) (by kernel_rfl) (fun _ _ _ h => h) (by rfl) (by intro w' hSw; (try dsimp only at hSw); go_simp; (try (with_reducible rfl))) (by assumption) ?_
                simp only [Act.put, List.setIfInBounds_toArray, List.set_cons_zero, List.set_cons_succ]
                refine held_take 6 58 (.pointer (some ⟨b, off + 8, none⟩)) rfl rfl (by kernel_rfl) (by kernel_rfl) (by kernel_rfl) (fun _ _ _ h => h) (by rfl) (by intro w' hSw; (try dsimp only at hSw); go_simp; (try (with_reducible rfl))) (by assumption) ?_
                simp only [Act.put, List.setIfInBounds_toArray, List.set_cons_zero, List.set_cons_succ]
                refine held_take 7 59 (.int .u8 y8.toNat) rfl rfl (by kernel_rfl) (by kernel_rfl) (by kernel_rfl) (fun _ _ _ h => h) (by rfl) (by intro w' hSw; (try dsimp only at hSw); go_simp; (try (with_reducible rfl))) (by assumption) ?_
                simp only [Act.put, List.setIfInBounds_toArray, List.set_cons_zero, List.set_cons_succ]
                refine held_take 11 63 (.slice (some ⟨b, off, none⟩) l.length c) rfl rfl (by kernel_rfl) (by kernel_rfl) (by kernel_rfl) (fun _ _ _ h => h) (by rfl) (by intro w' hSw; (try dsimp only at hSw); go_simp; (try (with_reducible rfl))) (by assumption) ?_
                simp only [Act.put, List.setIfInBounds_toArray, List.set_cons_zero, List.set_cons_succ]
                refine held_take 12 64 (.pointer (some ⟨b, off + 8, none⟩)) rfl rfl (by kernel_rfl) (by kernel_rfl) (by kernel_rfl) (fun _ _ _ h => h) (by rfl) (by intro w' hSw; (try dsimp only at hSw); go_simp; (try (with_reducible rfl))) (by assumption) ?_
                simp only [Act.put, List.setIfInBounds_toArray, List.set_cons_zero, List.set_cons_succ]
                refine held_take 13 65 (.int .u8 y8.toNat) rfl rfl (by kernel_rfl) (by kernel_rfl) (by kernel_rfl) (fun _ _ _ h => h) (by rfl) (by intro w' hSw; (try dsimp only at hSw); go_simp; (try (with_reducible rfl))) (by assumption) ?_
                simp only [Act.put, List.setIfInBounds_toArray, List.set_cons_zero, List.set_cons_succ]
                refine held_take 3 55 (.int .u8 (y8.toNat % 2)) rfl rfl (by kernel_rfl) (by kernel_rfl) (by kernel_rfl) (fun _ _ _ h => h) (by rfl) (by intro w' hSw; (try dsimp only at hSw); go_simp; (first | done | with_reducible rfl | (exact modY y8))) (by assumption) ?_
                simp only [Act.put, List.setIfInBounds_toArray, List.set_cons_zero, List.set_cons_succ]
                refine held_take 4 56 (.bool (bitD y8 0)) rfl rfl (by kernel_rfl) (by kernel_rfl) (by kernel_rfl) (fun _ _ _ h => h) (by rfl) (by intro w' hSw; (try dsimp only at hSw); go_simp; (first | done | with_reducible rfl | (first | (exact bitR0 y8) | (simp [bitR0]; done)))) (by assumption) ?_
                simp only [Act.put, List.setIfInBounds_toArray, List.set_cons_zero, List.set_cons_succ]
                refine held_take 8 60 (.int .u8 (y8.toNat / 2)) rfl rfl (by kernel_rfl) (by kernel_rfl) (by kernel_rfl) (fun _ _ _ h => h) (by rfl) (by intro w' hSw; (try dsimp only at hSw); go_simp; (first | done | with_reducible rfl | (exact divY2 y8))) (by assumption) ?_
                simp only [Act.put, List.setIfInBounds_toArray, List.set_cons_zero, List.set_cons_succ]
                refine held_take 9 61 (.int .u8 (y8.toNat / 2 % 2)) rfl rfl (by kernel_rfl) (by kernel_rfl) (by kernel_rfl) (fun _ _ _ h => h) (by rfl) (by intro w' hSw; (try dsimp only at hSw); go_simp; (first | done | with_reducible rfl | (exact modY2 y8))) (by assumption) ?_
                simp only [Act.put, List.setIfInBounds_toArray, List.set_cons_zero, List.set_cons_succ]
                refine held_take 10 62 (.bool (bitD y8 1)) rfl rfl (by kernel_rfl) (by kernel_rfl) (by kernel_rfl) (fun _ _ _ h => h) (by rfl) (by intro w' hSw; (try dsimp only at hSw); go_simp; (first | done | with_reducible rfl | (first | (exact bitR1 y8) | (simp [bitR1]; done)))) (by assumption) ?_
                simp only [Act.put, List.setIfInBounds_toArray, List.set_cons_zero, List.set_cons_succ]
                refine held_take 14 66 (.int .u8 (y8.toNat / 4)) rfl rfl (by kernel_rfl) (by kernel_rfl) (by kernel_rfl) (fun _ _ _ h => h) (by rfl) (by intro w' hSw; (try dsimp only at hSw); go_simp; (first | done | with_reducible rfl | (exact divY4 y8))) (by assumption) ?_
                simp only [Act.put, List.setIfInBounds_toArray, List.set_cons_zero, List.set_cons_succ]
                refine held_take 15 67 (.bool (bitD y8 2)) rfl rfl (by kernel_rfl) (by kernel_rfl) (by kernel_rfl) (fun _ _ _ h => h) (by rfl) (by intro w' hSw; (try dsimp only at hSw); go_simp; (first | done | with_reducible rfl | (first | (exact bitR2 y8 HU.out.2.2.1) | (simp [bitR2 y8 HU.out.2.2.1]; done)))) (by assumption) ?_
                simp only [Act.put, List.setIfInBounds_toArray, List.set_cons_zero, List.set_cons_succ]
                obtain ⟨p0, hp0⟩ : ∃ p, bitD y8 0 = p := ⟨_, rfl⟩
                obtain ⟨p1, hp1⟩ : ∃ p, bitD y8 1 = p := ⟨_, rfl⟩
                obtain ⟨p2, hp2⟩ : ∃ p, bitD y8 2 = p := ⟨_, rfl⟩
                rw [hp0, hp1, hp2]
                have HPB := Lib.hid (And.intro hp0 (And.intro hp1 hp2))
                clear hp0 hp1 hp2
                refine held_take 16 68 (.agg #[.bool p0, .bool p1, .bool p2]) rfl rfl (by kernel_rfl) (by kernel_rfl) (by kernel_rfl) (fun _ _ _ h => h) (by rfl) (by intro w' hSw; (try dsimp only at hSw); go_simp; (try (with_reducible rfl))) (by assumption) ?_
                simp only [Act.put, List.setIfInBounds_toArray, List.set_cons_zero, List.set_cons_succ]
                refine held_take 17 69 (.pointer (some ⟨(w.heap.size + 1), 2, none⟩)) rfl rfl (by kernel_rfl) (by kernel_rfl) (by kernel_rfl) (fun _ _ _ h => h) (by rfl) (by intro w' hSw; (try dsimp only at hSw); go_simp; (try (with_reducible rfl))) (by assumption) ?_
                simp only [Act.put, List.setIfInBounds_toArray, List.set_cons_zero, List.set_cons_succ]
                refine held_storeAt 18 rfl (by kernel_rfl) (by rfl) 23 (.tmp 69) (.tmp 68) rfl (w.heap.size + 1) 2 25 #[.int .i64 z8, .slice none 0 0, .bool false, .bool false, .bool false] #[.bool p0, .bool p1, .bool p2] #[.int .i64 z8, .slice none 0 0, .bool p0, .bool p1, .bool p2] rfl rfl HQ.out.sb (by simp) infoB3 (by simp [Value.oneCell']) rfl (fun w3 hN hg hs => ?_)
                have HQ := Lib.hid (HQ.out.put hN hg)
                clear hN hg hs
                refine ⟨(byteIs (H0.out.below HQ.out.bel) HY8.out hn8), ?_⟩
                clear hHeld
                simp only [Act.put, List.setIfInBounds_toArray]
                refine wpAnyH_done (by kernel_rfl) ?_ _
                go_wp2_with fail
                obtain ⟨N, hN⟩ : ∃ N, y9.toNat = N := ⟨_, rfl⟩
                have HN := Lib.hid hN
                have hN64 : N ≤ 64 := by have := HU.out.2.2.2; omega
                clear hN
                obtain ⟨GG, hGG⟩ : ∃ G, (if 10 ≤ l.length then entsD N (l.drop 10) else none) = G := ⟨_, rfl⟩
                have HGG := Lib.hid hGG
                clear hGG
                have HNW := Lib.hid (show min (l.getD 9 0).toNat 65 = N by rw [HY9.out, HN.out]; omega)
                have hl10 : 10 ≤ l.length := by omega
                have hn9 : 9 < l.length := by omega
                have hn9i : (9 : Int) < (l.length : Int) := by omega
                go_loopw [3, 6, 7, 8, 9] (fun rr aa ii pp nn wr => ∃ (i at_ : Nat) (ES : List En) (A1 : Option Addr) (c1 : Nat), i ≤ N ∧ rr = .bool false ∧ aa = .int .i64 at_ ∧ ii = .int .i64 i ∧ at_ ≤ l.length ∧ ES.length = i ∧ GotTo GG N i ES (l.drop at_) false ∧ RgQ z8 A1 ES.length c1 p0 p1 p2 w wr ∧ Own wr (w.heap.size + 2) 46 encN (.slice A1 ES.length c1) ES) (fun rr aa ii pp nn _ => N - (intOf ii).toNat)
                case atStart =>
                  refine ⟨0, 10, [], none, 0, by omega, rfl, rfl, rfl, hl10, rfl, ?_, HQ.out, Own.nil_ _ _ _ _⟩
                  rw [← HGG.out, if_pos hl10]
                  left; refine ⟨rfl, fun x hx => (by cases hx), ?_⟩; cases entsD N (l.drop 10) <;> simp
                case round =>
                  clear HQ
                  obtain ⟨i, at_, ES, A1, c1, hi, rfl, rfl, rfl, hat, hES, hG, hq, ho⟩ := hrel
                  have HQ := Lib.hid hq
                  have HO := Lib.hid ho
                  have HG := Lib.hid hG
                  have HES := Lib.hid hES
                  have hel : ES.length ≤ 64 := by omega
                  clear hq ho hG hES
                  have k9 : wr.cell? ⟨b, off + 9, none⟩ = some (.int .u8 N) := by have := byteIs (H0.out.below HQ.out.bel) HY9.out hn9; rwa [HN.out] at this
                  by_cases hlt : i < N
                  · have dk : decide ((i : Int) < (N : Int)) = true := decide_eq_true (by omega)
                    by_cases hal : l.length ≤ at_
                    · have da : decide ((l.length : Int) ≤ (at_ : Int)) = true := decide_eq_true (by omega)
                      have HGN := Lib.hid (GotBad HG.out hlt (.inl (List.drop_eq_nil_of_le hal)))
                      have HNG := Lib.hid (nogot_none HNW.out (HGG.out.trans HGN.out))
                      go_wp2_with (refine wl_store_blk rfl 25 (.tmp 2) (.tmp 82) rfl w.heap.size 25 #[.int .i64 0, .slice none 0 0, .bool false, .bool false, .bool false] #[.int .i64 0, .slice none 0 0, .bool false, .bool false, .bool false] rfl rfl HQ.out.rb rfl infoS (by simp [Value.oneCell']) ?_; intro w5 hR5 hg5 hs5)
                      have hl5 := hR5.cell
                      have HB5 : Below w.heap.size w w5 := HQ.out.bel.grown hg5 HQ.out.bel.size (by intro k hk; cases hk; omega)
                      exact bodyPost_ret (v := .tuple #[.agg #[.int .i64 0, .slice none 0 0, .bool false, .bool false, .bool false], .bool false]) (by simp [results, Tryd.results19, go_sem, hl5]) rfl (.inr ⟨HNG.out, rfl, HB5⟩)
                    · have da : decide ((l.length : Int) ≤ (at_ : Int)) = false := decide_eq_false (by omega)
                      obtain ⟨x, hx⟩ : ∃ x, l.getD at_ 0 = x := ⟨_, rfl⟩
                      have HX := Lib.hid hx
                      clear hx
                      have hal2 : at_ < l.length := by omega
                      have hal2i : (at_ : Int) < (l.length : Int) := by omega
                      clear hal
                      obtain ⟨j, hj⟩ : ∃ j : Nat, j = at_ + 1 := ⟨_, rfl⟩
                      have ej : (at_ : Int) + 1 = (j : Int) := by omega
                      have HJ := Lib.hid hj
                      have hjl : j ≤ l.length := by omega
                      have hjc : (j : Int) ≤ (c : Int) := by omega
                      have hj0 : (0 : Int) ≤ (j : Int) := by omega
                      clear hj
                      have HM1 := Lib.hid (drop_one HX.out hal2 HJ.out)
                      have hw1 : IntKind.i64.wrap ((at_ : Int) + 1) = (j : Int) := by rw [IntKind.wrap_i64]; omega
                      match hcut : cutOf (l.drop j) with
                      | none =>
                        have HC := Lib.hid hcut
                        clear hcut
                        have HGN := Lib.hid (GotBad HG.out hlt (.inr ⟨x, _, HM1.out, HC.out⟩))
                        have HNG := Lib.hid (nogot_none HNW.out (HGG.out.trans HGN.out))
                        by_cases hjl2 : j < l.length
                        · have hcj : ¬ (c = j) := by omega
                          clear hjl2
                          go_wp2_with fail
                          refine (refCutN_none (n := l.length - j) (by rw [List.length_drop]) _ _ _ ((H0.out.below HQ.out.bel).drop_at j) (by rw [List.length_drop]; omega) (by omega) (by rw [List.length_drop]; omega) HC.out).mono ?_; rintro e w2 ⟨rfl, hb⟩
                          have HQ := Lib.hid (HQ.out.below hb)
                          clear hb k9
                          go_wp2_with (first | (refine wl_store_blk rfl 44 (.tmp 8) (.tmp 89) rfl w2.heap.size 44 zeroPod zeroPod rfl rfl (Blk.new _ _ _) rfl infoPod zeroPod_one ?_; intro w3 hN hg hs; have hb := ((Below.refl w2.heap.size w2).alloc (Nat.le_refl _) (.cells zeroPod 44)).grown hg (by simp) (by intro k hk; cases hk; exact Nat.le_refl _); have HP := Lib.hid hN; have HQ := Lib.hid (HQ.out.below hb); clear hN hg hs hb) | (refine wl_store_blk rfl 25 (.tmp 2) (.tmp 93) rfl w.heap.size 25 #[.int .i64 0, .slice none 0 0, .bool false, .bool false, .bool false] #[.int .i64 0, .slice none 0 0, .bool false, .bool false, .bool false] rfl rfl HQ.out.rb rfl infoS (by simp [Value.oneCell']) ?_; intro w5 hR5 hg5 hs5))
                          have hl5 := hR5.cell
                          have HB5 : Below w.heap.size w w5 := HQ.out.bel.grown hg5 HQ.out.bel.size (by intro k hk; cases hk; omega)
                          exact bodyPost_ret (v := .tuple #[.agg #[.int .i64 0, .slice none 0 0, .bool false, .bool false, .bool false], .bool false]) (by simp [results, Tryd.results19, go_sem, hl5]) rfl (.inr ⟨HNG.out, rfl, HB5⟩)
                        · by_cases hcj : c = j
                          · go_wp2_with fail
                            refine (refCutN_none (n := l.length - j) (by rw [List.length_drop]) _ _ _ (rds_nil (List.drop_eq_nil_of_le (by omega))) (by rw [List.length_drop]; omega) (by omega) (by rw [List.length_drop]; omega) HC.out).mono ?_; rintro e w2 ⟨rfl, hb⟩
                            have HQ := Lib.hid (HQ.out.below hb)
                            clear hb k9
                            go_wp2_with (first | (refine wl_store_blk rfl 44 (.tmp 8) (.tmp 89) rfl w2.heap.size 44 zeroPod zeroPod rfl rfl (Blk.new _ _ _) rfl infoPod zeroPod_one ?_; intro w3 hN hg hs; have hb := ((Below.refl w2.heap.size w2).alloc (Nat.le_refl _) (.cells zeroPod 44)).grown hg (by simp) (by intro k hk; cases hk; exact Nat.le_refl _); have HP := Lib.hid hN; have HQ := Lib.hid (HQ.out.below hb); clear hN hg hs hb) | (refine wl_store_blk rfl 25 (.tmp 2) (.tmp 93) rfl w.heap.size 25 #[.int .i64 0, .slice none 0 0, .bool false, .bool false, .bool false] #[.int .i64 0, .slice none 0 0, .bool false, .bool false, .bool false] rfl rfl HQ.out.rb rfl infoS (by simp [Value.oneCell']) ?_; intro w5 hR5 hg5 hs5))
                            have hl5 := hR5.cell
                            have HB5 : Below w.heap.size w w5 := HQ.out.bel.grown hg5 HQ.out.bel.size (by intro k hk; cases hk; omega)
                            exact bodyPost_ret (v := .tuple #[.agg #[.int .i64 0, .slice none 0 0, .bool false, .bool false, .bool false], .bool false]) (by simp [results, Tryd.results19, go_sem, hl5]) rfl (.inr ⟨HNG.out, rfl, HB5⟩)
                          · go_wp2_with fail
                            refine (refCutN_none (n := l.length - j) (by rw [List.length_drop]) _ _ _ (rds_nil (List.drop_eq_nil_of_le (by omega))) (by rw [List.length_drop]; omega) (by omega) (by rw [List.length_drop]; omega) HC.out).mono ?_; rintro e w2 ⟨rfl, hb⟩
                            have HQ := Lib.hid (HQ.out.below hb)
                            clear hb k9
                            go_wp2_with (first | (refine wl_store_blk rfl 44 (.tmp 8) (.tmp 89) rfl w2.heap.size 44 zeroPod zeroPod rfl rfl (Blk.new _ _ _) rfl infoPod zeroPod_one ?_; intro w3 hN hg hs; have hb := ((Below.refl w2.heap.size w2).alloc (Nat.le_refl _) (.cells zeroPod 44)).grown hg (by simp) (by intro k hk; cases hk; exact Nat.le_refl _); have HP := Lib.hid hN; have HQ := Lib.hid (HQ.out.below hb); clear hN hg hs hb) | (refine wl_store_blk rfl 25 (.tmp 2) (.tmp 93) rfl w.heap.size 25 #[.int .i64 0, .slice none 0 0, .bool false, .bool false, .bool false] #[.int .i64 0, .slice none 0 0, .bool false, .bool false, .bool false] rfl rfl HQ.out.rb rfl infoS (by simp [Value.oneCell']) ?_; intro w5 hR5 hg5 hs5))
                            have hl5 := hR5.cell
                            have HB5 : Below w.heap.size w w5 := HQ.out.bel.grown hg5 HQ.out.bel.size (by intro k hk; cases hk; omega)
                            exact bodyPost_ret (v := .tuple #[.agg #[.int .i64 0, .slice none 0 0, .bool false, .bool false, .bool false], .bool false]) (by simp [results, Tryd.results19, go_sem, hl5]) rfl (.inr ⟨HNG.out, rfl, HB5⟩)
                      | some (p, rest) =>
                        have HC := Lib.hid hcut
                        obtain ⟨hpw, hpr, hlp⟩ := cut_put hcut
                        clear hcut
                        have HPW := Lib.hid (And.intro hpw hpr)
                        have HLP := Lib.hid hlp
                        obtain ⟨q, hq⟩ : ∃ q, p.bytes.length = q := ⟨_, rfl⟩
                        have hq0 : 0 < q := by have := Pd.bytes_len_le p hpr; omega
                        have hq1 : q ≤ 115 := by have := Pd.bytes_len_le p hpr; omega
                        have hjq : j + q ≤ l.length := by have := congrArg List.length hlp; rw [List.length_drop, List.length_append, hq] at this; omega
                        have HRE := Lib.hid (show rest = l.drop (j + q) by rw [← List.drop_drop, hlp, ← hq, List.drop_left])
                        have HQL := Lib.hid hq
                        have hcj : ¬ (c = j) := by omega
                        clear hpw hpr hlp hq
                        have dq : ((q : Int) == 0) = false := beq_false_of_ne (by omega)
                        go_wp2_with fail
                        refine (refCutN_some (n := l.length - j) (by rw [List.length_drop]) _ _ _ ((H0.out.below HQ.out.bel).drop_at j) (by rw [List.length_drop]; omega) (by omega) (by rw [List.length_drop]; omega) HC.out HQL.out).mono ?_; rintro e w2 ⟨rfl, hb⟩
                        have HQ := Lib.hid (HQ.out.below hb)
                        have HO := Lib.hid (HO.out.below hb (Nat.le_refl _))
                        clear hb k9
                        go_wp2_with (refine wl_store_blk rfl 44 (.tmp 8) (.tmp 89) rfl w2.heap.size 44 zeroPod p.cells rfl rfl (Blk.new _ _ _) rfl infoPod (cells_one p) ?_; intro w3 hN hg hs; have hb := ((Below.refl w2.heap.size w2).alloc (Nat.le_refl _) (.cells zeroPod 44)).grown hg (by simp) (by intro k hk; cases hk; exact Nat.le_refl _); have HP := Lib.hid hN; have HQ := Lib.hid (HQ.out.below hb); have HO := Lib.hid (HO.out.below hb (Nat.le_refl _)); clear hN hg hs hb)
                        generalize w2.heap.size = n8 at *
                        have HQ := Lib.hid HQ.out.drew
                        have HO := Lib.hid HO.out.drew
                        have HP := Lib.hid HP.out.drew
                        have HZ0 := Lib.hid HZ.out
                        refine wp_region_held_drew (S := fun w' => w'.cell? ⟨n8, 0, none⟩ = some (.string p.id) ∧ w'.cell? ⟨n8, 1, none⟩ = some (.int .i64 p.prio) ∧ w'.cell? ⟨n8, 2, none⟩ = some (.bool p.crit) ∧ w'.cell? ⟨n8, 3, none⟩ = some (.int .i64 p.q0) ∧ w'.cell? ⟨n8, 4, none⟩ = some (.int .i64 p.q1) ∧ w'.cell? ⟨n8, 5, none⟩ = some (.int .i64 p.q2) ∧ w'.cell? ⟨n8, 6, none⟩ = some (.int .i64 p.l0) ∧ w'.cell? ⟨n8, 7, none⟩ = some (.int .i64 p.l1) ∧ w'.cell? ⟨n8, 8, none⟩ = some (.int .i64 p.l2) ∧ w'.cell? ⟨n8, 9, none⟩ = some (.string p.image) ∧ w'.cell? ⟨n8, 10, none⟩ = some (.int .i64 p.size) ∧ w'.cell? ⟨b, off + at_, none⟩ = some (.int .u8 x.toNat)) (by kernel_rfl) (And.intro (HP.out.cell 0) (And.intro (HP.out.cell 1) (And.intro (HP.out.cell 2) (And.intro (HP.out.cell 3) (And.intro (HP.out.cell 4) (And.intro (HP.out.cell 5) (And.intro (HP.out.cell 6) (And.intro (HP.out.cell 7) (And.intro (HP.out.cell 8) (And.intro (HP.out.cell 9) (And.intro (HP.out.cell 10) (byteIs (H0.out.below HQ.out.bel) HX.out hal2)))))))))))) (fun hHeld => ?_)
                        generalize w3.drew = wd at *
                        refine held_take 0 94 (.pointer (some ⟨(w.heap.size + 1), 1, none⟩)) rfl rfl (by kernel_rfl) (by kernel_rfl) (by kernel_rfl) (fun _ _ _ h => h) (by rfl) (by intro w' hSw; (try dsimp only at hSw); go_simp; (try (with_reducible rfl))) (by assumption) ?_
                        simp only [Act.put, List.setIfInBounds_toArray, List.set_cons_zero, List.set_cons_succ]
                        refine held_take 2 96 (.agg #[.string p.id, .int .i64 p.prio, .bool p.crit, .int .i64 p.q0, .int .i64 p.q1, .int .i64 p.q2, .int .i64 p.l0, .int .i64 p.l1, .int .i64 p.l2, .string p.image, .int .i64 p.size]) rfl rfl (by kernel_rfl) (by kernel_rfl) (by kernel_rfl) (fun _ _ _ h => h) (by rfl) (by intro w' hSw; (try dsimp only at hSw); go_simp; (try (with_reducible rfl))) (by assumption) ?_
                        simp only [Act.put, List.setIfInBounds_toArray, List.set_cons_zero, List.set_cons_succ]
                        refine held_take 3 97 (.slice (some ⟨b, off, none⟩) l.length c) rfl rfl (by kernel_rfl) (by kernel_rfl) (by kernel_rfl) (fun _ _ _ h => h) (by rfl) (by intro w' hSw; (try dsimp only at hSw); go_simp; (try (with_reducible rfl))) (by assumption) ?_
                        simp only [Act.put, List.setIfInBounds_toArray, List.set_cons_zero, List.set_cons_succ]
                        refine held_take 4 98 (.int .i64 at_) rfl rfl (by kernel_rfl) (by kernel_rfl) (by kernel_rfl) (fun _ _ _ h => h) (by rfl) (by intro w' hSw; (try dsimp only at hSw); go_simp; (try (with_reducible rfl))) (by assumption) ?_
                        simp only [Act.put, List.setIfInBounds_toArray, List.set_cons_zero, List.set_cons_succ]
                        refine held_take 5 99 (.pointer (some ⟨b, off + at_, none⟩)) rfl rfl (by kernel_rfl) (by kernel_rfl) (by kernel_rfl) (fun _ _ _ h => h) (by rfl) (by intro w' hSw; (try dsimp only at hSw); go_simp; (try (with_reducible rfl))) (by assumption) ?_
                        simp only [Act.put, List.setIfInBounds_toArray, List.set_cons_zero, List.set_cons_succ]
                        refine held_take 6 100 (.int .u8 x.toNat) rfl rfl (by kernel_rfl) (by kernel_rfl) (by kernel_rfl) (fun _ _ _ h => h) (by rfl) (by intro w' hSw; (try dsimp only at hSw); go_simp; (try (with_reducible rfl))) (by assumption) ?_
                        simp only [Act.put, List.setIfInBounds_toArray, List.set_cons_zero, List.set_cons_succ]
                        refine held_take 7 101 (.int .i64 x.toNat) rfl rfl (by kernel_rfl) (by kernel_rfl) (by kernel_rfl) (fun _ _ _ h => h) (by rfl) (by intro w' hSw; (try dsimp only at hSw); go_simp; (first | done | with_reducible rfl | (exact wrapY x))) (by assumption) ?_
                        simp only [Act.put, List.setIfInBounds_toArray, List.set_cons_zero, List.set_cons_succ]
                        refine held_take 8 102 (.agg #[.string p.id, .int .i64 p.prio, .bool p.crit, .int .i64 p.q0, .int .i64 p.q1, .int .i64 p.q2, .int .i64 p.l0, .int .i64 p.l1, .int .i64 p.l2, .string p.image, .int .i64 p.size, .int .i64 x.toNat]) rfl rfl (by kernel_rfl) (by kernel_rfl) (by kernel_rfl) (fun _ _ _ h => h) (by rfl) (by intro w' hSw; (try dsimp only at hSw); go_simp; (try (with_reducible rfl))) (by assumption) ?_
                        simp only [Act.put, List.setIfInBounds_toArray, List.set_cons_zero, List.set_cons_succ]
                        refine held_twoD 1 9 95 103 rfl rfl rfl rfl (by kernel_rfl) (by rfl) (by rfl) (fun K hK => ?_) (fun K hK => ?_)
                        · have cs := HQ.out.sb.cell
                          go_simp
                          refine hK _ _ (And.intro (HP.out.cell 0) (And.intro (HP.out.cell 1) (And.intro (HP.out.cell 2) (And.intro (HP.out.cell 3) (And.intro (HP.out.cell 4) (And.intro (HP.out.cell 5) (And.intro (HP.out.cell 6) (And.intro (HP.out.cell 7) (And.intro (HP.out.cell 8) (And.intro (HP.out.cell 9) (And.intro (HP.out.cell 10) (byteIs (H0.out.below HQ.out.bel) HX.out hal2)))))))))))) ?_
                          have hHeld := (And.intro (HP.out.cell 0) (And.intro (HP.out.cell 1) (And.intro (HP.out.cell 2) (And.intro (HP.out.cell 3) (And.intro (HP.out.cell 4) (And.intro (HP.out.cell 5) (And.intro (HP.out.cell 6) (And.intro (HP.out.cell 7) (And.intro (HP.out.cell 8) (And.intro (HP.out.cell 9) (And.intro (HP.out.cell 10) (byteIs (H0.out.below HQ.out.bel) HX.out hal2))))))))))))
                          clear hK K
                          simp only [Act.put, List.setIfInBounds_toArray, List.set_cons_zero, List.set_cons_succ]
                          clear cs
                          refine held_call 9 103 rfl rfl (by kernel_rfl) (by rfl) (fun K hK => ?_)
                          go_simp
                          have HRW := Lib.hid (Rds.made (wd) encN [(⟨p, (x.toNat : Int)⟩ : En)] 46 #[.string p.id, .int .i64 p.prio, .bool p.crit, .int .i64 p.q0, .int .i64 p.q1, .int .i64 p.q2, .int .i64 p.l0, .int .i64 p.l1, .int .i64 p.l2, .string p.image, .int .i64 p.size, .int .i64 x.toNat] (0, 0) rfl)
                          have HO := Lib.hid (HO.out.alloc (.cells #[.string p.id, .int .i64 p.prio, .bool p.crit, .int .i64 p.q0, .int .i64 p.q1, .int .i64 p.q2, .int .i64 p.l0, .int .i64 p.l1, .int .i64 p.l2, .string p.image, .int .i64 p.size, .int .i64 x.toNat] 46))
                          have HQ := Lib.hid (HQ.out.below ((Below.refl _ _).alloc (Nat.le_refl _) (.cells #[.string p.id, .int .i64 p.prio, .bool p.crit, .int .i64 p.q0, .int .i64 p.q1, .int .i64 p.q2, .int .i64 p.l0, .int .i64 p.l1, .int .i64 p.l2, .string p.image, .int .i64 p.size, .int .i64 x.toNat] 46)))
                          have HP := Lib.hid (HP.out.alloc (.cells #[.string p.id, .int .i64 p.prio, .bool p.crit, .int .i64 p.q0, .int .i64 p.q1, .int .i64 p.q2, .int .i64 p.l0, .int .i64 p.l1, .int .i64 p.l2, .string p.image, .int .i64 p.size, .int .i64 x.toNat] 46))
                          refine hK _ _ (And.intro (HP.out.cell 0) (And.intro (HP.out.cell 1) (And.intro (HP.out.cell 2) (And.intro (HP.out.cell 3) (And.intro (HP.out.cell 4) (And.intro (HP.out.cell 5) (And.intro (HP.out.cell 6) (And.intro (HP.out.cell 7) (And.intro (HP.out.cell 8) (And.intro (HP.out.cell 9) (And.intro (HP.out.cell 10) (byteIs (H0.out.below HQ.out.bel) HX.out hal2)))))))))))) ?_
                          have hHeld := (And.intro (HP.out.cell 0) (And.intro (HP.out.cell 1) (And.intro (HP.out.cell 2) (And.intro (HP.out.cell 3) (And.intro (HP.out.cell 4) (And.intro (HP.out.cell 5) (And.intro (HP.out.cell 6) (And.intro (HP.out.cell 7) (And.intro (HP.out.cell 8) (And.intro (HP.out.cell 9) (And.intro (HP.out.cell 10) (byteIs (H0.out.below HQ.out.bel) HX.out hal2))))))))))))
                          clear hK K
                          simp only [Act.put, List.setIfInBounds_toArray, List.set_cons_zero, List.set_cons_succ]
                          refine held_call 10 104 rfl rfl (by kernel_rfl) (by rfl) (fun K hK => ?_)
                          refine wp_app (wd.alloc (.cells #[.string p.id, .int .i64 p.prio, .bool p.crit, .int .i64 p.q0, .int .i64 p.q1, .int .i64 p.q2, .int .i64 p.l0, .int .i64 p.l1, .int .i64 p.l2, .string p.image, .int .i64 p.size, .int .i64 x.toNat] 46)) elemN encN (.tmp 95) (.tmp 103) rfl (w.heap.size + 2) _ ES (by simp [Act.eval]) HO.out _ [(⟨p, (x.toNat : Int)⟩ : En)] 1 (by simp [Act.eval]) HRW.out (by simp; omega) (by simp; omega) (by have := HQ.out.sb.lt; omega) ?_
                          intro A6 c6 w9 ho hg _
                          have HP := Lib.hid (HP.out.grown hg (HO.out.ne_blk HP.out (by decide)))
                          have HQ := Lib.hid (HQ.out.app hg (fun k hk => by have := (HO.out.block_lt k hk).1; omega))
                          have HO := Lib.hid ho
                          clear ho hg
                          refine hK _ _ (And.intro (HP.out.cell 0) (And.intro (HP.out.cell 1) (And.intro (HP.out.cell 2) (And.intro (HP.out.cell 3) (And.intro (HP.out.cell 4) (And.intro (HP.out.cell 5) (And.intro (HP.out.cell 6) (And.intro (HP.out.cell 7) (And.intro (HP.out.cell 8) (And.intro (HP.out.cell 9) (And.intro (HP.out.cell 10) (byteIs (H0.out.below HQ.out.bel) HX.out hal2)))))))))))) ?_
                          have hHeld := (And.intro (HP.out.cell 0) (And.intro (HP.out.cell 1) (And.intro (HP.out.cell 2) (And.intro (HP.out.cell 3) (And.intro (HP.out.cell 4) (And.intro (HP.out.cell 5) (And.intro (HP.out.cell 6) (And.intro (HP.out.cell 7) (And.intro (HP.out.cell 8) (And.intro (HP.out.cell 9) (And.intro (HP.out.cell 10) (byteIs (H0.out.below HQ.out.bel) HX.out hal2))))))))))))
                          clear hK K
                          simp only [Act.put, List.setIfInBounds_toArray, List.set_cons_zero, List.set_cons_succ]
                          refine held_take 11 105 (.pointer (some ⟨(w.heap.size + 1), 1, none⟩)) rfl rfl (by kernel_rfl) (by kernel_rfl) (by kernel_rfl) (fun _ _ _ h => h) (by rfl) (by intro w' hSw; (try dsimp only at hSw); go_simp; (try (with_reducible rfl))) (by assumption) ?_
                          simp only [Act.put, List.setIfInBounds_toArray, List.set_cons_zero, List.set_cons_succ]
                          refine held_op 12 rfl (by kernel_rfl) (by rfl) (fun K hK => ?_)
                          have cs := HQ.out.sb.cell
                          have fs := HQ.out.sb.frozen
                          go_simp
                          have HO := Lib.hid (HO.out.setFar HQ.out.sb (by decide) 1 (.slice A6 (ES.length + [(⟨p, (x.toNat : Int)⟩ : En)].length) c6))
                          have HP := Lib.hid (HP.out.far (p := ⟨w.heap.size + 1, 1, none⟩) (fun e => HQ.out.apart HP.out e) (.slice A6 (ES.length + [(⟨p, (x.toNat : Int)⟩ : En)].length) c6))
                          have HQ := Lib.hid (HQ.out.set (z' := z8) (A2 := A6) (n2 := ES.length + [(⟨p, (x.toNat : Int)⟩ : En)].length) (c2 := c6) (p0 := p0) (p1 := p1) (p2 := p2) 1 (.slice A6 (ES.length + [(⟨p, (x.toNat : Int)⟩ : En)].length) c6) rfl)
                          refine hK undef _ (And.intro (HP.out.cell 0) (And.intro (HP.out.cell 1) (And.intro (HP.out.cell 2) (And.intro (HP.out.cell 3) (And.intro (HP.out.cell 4) (And.intro (HP.out.cell 5) (And.intro (HP.out.cell 6) (And.intro (HP.out.cell 7) (And.intro (HP.out.cell 8) (And.intro (HP.out.cell 9) (And.intro (HP.out.cell 10) (byteIs (H0.out.below HQ.out.bel) HX.out hal2)))))))))))) ?_
                          clear hK K cs fs
                          simp only [Act.put, List.setIfInBounds_toArray]
                          refine wpAnyH_done (by kernel_rfl) ?_ _
                          clear hHeld
                          have HGN := Lib.hid (GotYes (z := ⟨p, (x.toNat : Int)⟩) HG.out hlt HM1.out HC.out rfl)
                          rw [HRE.out] at HGN
                          obtain ⟨jq, hjQ⟩ : ∃ m : Nat, m = j + q := ⟨_, rfl⟩
                          have ew2 : (j : Int) + (q : Int) = (jq : Int) := by omega
                          have ew : IntKind.i64.wrap ((j : Int) + (q : Int)) = (jq : Int) := by rw [IntKind.wrap_i64]; omega
                          have hjq2 : jq ≤ l.length := by omega
                          rw [← hjQ] at HGN
                          clear hjQ
                          go_wp2_with fail
                          go_roundw
                          case rel => exact ⟨i + 1, jq, ES ++ [⟨p, (x.toNat : Int)⟩], A6, c6, by omega, rfl, by go_num, by go_num, hjq2, by rw [List.length_append, HES.out]; rfl, HGN.out, by rw [List.length_append]; exact HQ.out, by rw [List.length_append]; exact HO.out⟩
                          case measure => simp [intOf]; omega
                        · go_simp
                          have HRW := Lib.hid (Rds.made (wd) encN [(⟨p, (x.toNat : Int)⟩ : En)] 46 #[.string p.id, .int .i64 p.prio, .bool p.crit, .int .i64 p.q0, .int .i64 p.q1, .int .i64 p.q2, .int .i64 p.l0, .int .i64 p.l1, .int .i64 p.l2, .string p.image, .int .i64 p.size, .int .i64 x.toNat] (0, 0) rfl)
                          have HO := Lib.hid (HO.out.alloc (.cells #[.string p.id, .int .i64 p.prio, .bool p.crit, .int .i64 p.q0, .int .i64 p.q1, .int .i64 p.q2, .int .i64 p.l0, .int .i64 p.l1, .int .i64 p.l2, .string p.image, .int .i64 p.size, .int .i64 x.toNat] 46))
                          have HQ := Lib.hid (HQ.out.below ((Below.refl _ _).alloc (Nat.le_refl _) (.cells #[.string p.id, .int .i64 p.prio, .bool p.crit, .int .i64 p.q0, .int .i64 p.q1, .int .i64 p.q2, .int .i64 p.l0, .int .i64 p.l1, .int .i64 p.l2, .string p.image, .int .i64 p.size, .int .i64 x.toNat] 46)))
                          have HP := Lib.hid (HP.out.alloc (.cells #[.string p.id, .int .i64 p.prio, .bool p.crit, .int .i64 p.q0, .int .i64 p.q1, .int .i64 p.q2, .int .i64 p.l0, .int .i64 p.l1, .int .i64 p.l2, .string p.image, .int .i64 p.size, .int .i64 x.toNat] 46))
                          refine hK _ _ (And.intro (HP.out.cell 0) (And.intro (HP.out.cell 1) (And.intro (HP.out.cell 2) (And.intro (HP.out.cell 3) (And.intro (HP.out.cell 4) (And.intro (HP.out.cell 5) (And.intro (HP.out.cell 6) (And.intro (HP.out.cell 7) (And.intro (HP.out.cell 8) (And.intro (HP.out.cell 9) (And.intro (HP.out.cell 10) (byteIs (H0.out.below HQ.out.bel) HX.out hal2)))))))))))) ?_
                          have hHeld := (And.intro (HP.out.cell 0) (And.intro (HP.out.cell 1) (And.intro (HP.out.cell 2) (And.intro (HP.out.cell 3) (And.intro (HP.out.cell 4) (And.intro (HP.out.cell 5) (And.intro (HP.out.cell 6) (And.intro (HP.out.cell 7) (And.intro (HP.out.cell 8) (And.intro (HP.out.cell 9) (And.intro (HP.out.cell 10) (byteIs (H0.out.below HQ.out.bel) HX.out hal2))))))))))))
                          clear hK K
                          simp only [Act.put, List.setIfInBounds_toArray, List.set_cons_zero, List.set_cons_succ]
                          refine held_call 1 95 rfl rfl (by kernel_rfl) (by rfl) (fun K hK => ?_)
                          have cs := HQ.out.sb.cell
                          go_simp
                          refine hK _ _ (And.intro (HP.out.cell 0) (And.intro (HP.out.cell 1) (And.intro (HP.out.cell 2) (And.intro (HP.out.cell 3) (And.intro (HP.out.cell 4) (And.intro (HP.out.cell 5) (And.intro (HP.out.cell 6) (And.intro (HP.out.cell 7) (And.intro (HP.out.cell 8) (And.intro (HP.out.cell 9) (And.intro (HP.out.cell 10) (byteIs (H0.out.below HQ.out.bel) HX.out hal2)))))))))))) ?_
                          have hHeld := (And.intro (HP.out.cell 0) (And.intro (HP.out.cell 1) (And.intro (HP.out.cell 2) (And.intro (HP.out.cell 3) (And.intro (HP.out.cell 4) (And.intro (HP.out.cell 5) (And.intro (HP.out.cell 6) (And.intro (HP.out.cell 7) (And.intro (HP.out.cell 8) (And.intro (HP.out.cell 9) (And.intro (HP.out.cell 10) (byteIs (H0.out.below HQ.out.bel) HX.out hal2))))))))))))
                          clear hK K
                          simp only [Act.put, List.setIfInBounds_toArray, List.set_cons_zero, List.set_cons_succ]
                          clear cs
                          refine held_call 10 104 rfl rfl (by kernel_rfl) (by rfl) (fun K hK => ?_)
                          refine wp_app (wd.alloc (.cells #[.string p.id, .int .i64 p.prio, .bool p.crit, .int .i64 p.q0, .int .i64 p.q1, .int .i64 p.q2, .int .i64 p.l0, .int .i64 p.l1, .int .i64 p.l2, .string p.image, .int .i64 p.size, .int .i64 x.toNat] 46)) elemN encN (.tmp 95) (.tmp 103) rfl (w.heap.size + 2) _ ES (by simp [Act.eval]) HO.out _ [(⟨p, (x.toNat : Int)⟩ : En)] 1 (by simp [Act.eval]) HRW.out (by simp; omega) (by simp; omega) (by have := HQ.out.sb.lt; omega) ?_
                          intro A6 c6 w9 ho hg _
                          have HP := Lib.hid (HP.out.grown hg (HO.out.ne_blk HP.out (by decide)))
                          have HQ := Lib.hid (HQ.out.app hg (fun k hk => by have := (HO.out.block_lt k hk).1; omega))
                          have HO := Lib.hid ho
                          clear ho hg
                          refine hK _ _ (And.intro (HP.out.cell 0) (And.intro (HP.out.cell 1) (And.intro (HP.out.cell 2) (And.intro (HP.out.cell 3) (And.intro (HP.out.cell 4) (And.intro (HP.out.cell 5) (And.intro (HP.out.cell 6) (And.intro (HP.out.cell 7) (And.intro (HP.out.cell 8) (And.intro (HP.out.cell 9) (And.intro (HP.out.cell 10) (byteIs (H0.out.below HQ.out.bel) HX.out hal2)))))))))))) ?_
                          have hHeld := (And.intro (HP.out.cell 0) (And.intro (HP.out.cell 1) (And.intro (HP.out.cell 2) (And.intro (HP.out.cell 3) (And.intro (HP.out.cell 4) (And.intro (HP.out.cell 5) (And.intro (HP.out.cell 6) (And.intro (HP.out.cell 7) (And.intro (HP.out.cell 8) (And.intro (HP.out.cell 9) (And.intro (HP.out.cell 10) (byteIs (H0.out.below HQ.out.bel) HX.out hal2))))))))))))
                          clear hK K
                          simp only [Act.put, List.setIfInBounds_toArray, List.set_cons_zero, List.set_cons_succ]
                          refine held_take 11 105 (.pointer (some ⟨(w.heap.size + 1), 1, none⟩)) rfl rfl (by kernel_rfl) (by kernel_rfl) (by kernel_rfl) (fun _ _ _ h => h) (by rfl) (by intro w' hSw; (try dsimp only at hSw); go_simp; (try (with_reducible rfl))) (by assumption) ?_
                          simp only [Act.put, List.setIfInBounds_toArray, List.set_cons_zero, List.set_cons_succ]
                          refine held_op 12 rfl (by kernel_rfl) (by rfl) (fun K hK => ?_)
                          have cs := HQ.out.sb.cell
                          have fs := HQ.out.sb.frozen
                          go_simp
                          have HO := Lib.hid (HO.out.setFar HQ.out.sb (by decide) 1 (.slice A6 (ES.length + [(⟨p, (x.toNat : Int)⟩ : En)].length) c6))
                          have HP := Lib.hid (HP.out.far (p := ⟨w.heap.size + 1, 1, none⟩) (fun e => HQ.out.apart HP.out e) (.slice A6 (ES.length + [(⟨p, (x.toNat : Int)⟩ : En)].length) c6))
                          have HQ := Lib.hid (HQ.out.set (z' := z8) (A2 := A6) (n2 := ES.length + [(⟨p, (x.toNat : Int)⟩ : En)].length) (c2 := c6) (p0 := p0) (p1 := p1) (p2 := p2) 1 (.slice A6 (ES.length + [(⟨p, (x.toNat : Int)⟩ : En)].length) c6) rfl)
                          refine hK undef _ (And.intro (HP.out.cell 0) (And.intro (HP.out.cell 1) (And.intro (HP.out.cell 2) (And.intro (HP.out.cell 3) (And.intro (HP.out.cell 4) (And.intro (HP.out.cell 5) (And.intro (HP.out.cell 6) (And.intro (HP.out.cell 7) (And.intro (HP.out.cell 8) (And.intro (HP.out.cell 9) (And.intro (HP.out.cell 10) (byteIs (H0.out.below HQ.out.bel) HX.out hal2)))))))))))) ?_
                          clear hK K cs fs
                          simp only [Act.put, List.setIfInBounds_toArray]
                          refine wpAnyH_done (by kernel_rfl) ?_ _
                          clear hHeld
                          have HGN := Lib.hid (GotYes (z := ⟨p, (x.toNat : Int)⟩) HG.out hlt HM1.out HC.out rfl)
                          rw [HRE.out] at HGN
                          obtain ⟨jq, hjQ⟩ : ∃ m : Nat, m = j + q := ⟨_, rfl⟩
                          have ew2 : (j : Int) + (q : Int) = (jq : Int) := by omega
                          have ew : IntKind.i64.wrap ((j : Int) + (q : Int)) = (jq : Int) := by rw [IntKind.wrap_i64]; omega
                          have hjq2 : jq ≤ l.length := by omega
                          rw [← hjQ] at HGN
                          clear hjQ
                          go_wp2_with fail
                          go_roundw
                          case rel => exact ⟨i + 1, jq, ES ++ [⟨p, (x.toNat : Int)⟩], A6, c6, by omega, rfl, by go_num, by go_num, hjq2, by rw [List.length_append, HES.out]; rfl, HGN.out, by rw [List.length_append]; exact HQ.out, by rw [List.length_append]; exact HO.out⟩
                          case measure => simp [intOf]; omega
                  · obtain rfl : i = N := by omega
                    have dk : decide ((i : Int) < (i : Int)) = false := by simp
                    obtain ⟨hGE, hWFE⟩ := HG.out.good_end
                    have HGE := Lib.hid (HGG.out.trans hGE)
                    have HWF := Lib.hid hWFE
                    clear hGE hWFE
                    by_cases hal : at_ = l.length
                    · have HAL := Lib.hid hal
                      have da : ((at_ : Int) != (l.length : Int)) = false := by rw [hal]; simp
                      have da2 : ((at_ : Int) == (l.length : Int)) = true := by rw [hal]; simp
                      clear hal
                      have cs := HQ.out.sb.cell
                      by_cases hR : RightS z8 ES
                      · have HRR := Lib.hid hR
                        clear hR
                        have HGY : Hid (GotD l z8 p0 p1 p2 ES) := by
                          have hw8 : wrap64 (beTo l 8) = z8 := by rw [HZ8.out]; have := HZ.out; unfold wrap64; omega
                          obtain ⟨q0, q1, q2⟩ := HPB.out
                          have hg := got_yes HNW.out (by rw [HGE.out, HAL.out, List.drop_length]) (by rw [hw8]; exact HRR.out) (by rw [HY8.out]; have := HU.out.2.2.1; omega)
                          rw [hw8, HY8.out, q0, q1, q2] at hg
                          exact hg
                        go_wp2_with fail
                        refine (refStRightV_any (v := true) (RightS.iffYes HRR.out) A1 c1 p0 p1 p2 _ HO.out.toRds HWF.out (by omega)).mono ?_; rintro e w8 ⟨rfl, hb⟩
                        have HQ := Lib.hid (HQ.out.below hb)
                        have HO := Lib.hid (HO.out.below hb (Nat.le_refl _))
                        clear hb cs k9
                        have cs := HQ.out.sb.cell
                        go_wp2_with (refine wl_store_blk rfl 25 (.tmp 2) (.tmp 120) rfl w.heap.size 25 #[.int .i64 0, .slice none 0 0, .bool false, .bool false, .bool false] #[.int .i64 z8, .slice A1 ES.length c1, .bool p0, .bool p1, .bool p2] rfl rfl HQ.out.rb rfl infoS (by simp [Value.oneCell']) ?_; intro w5 hR5 hg5 hs5)
                        have hl5 := hR5.cell
                        have HB5 : Below w.heap.size w w5 := HQ.out.bel.grown hg5 HQ.out.bel.size (by intro k hk; cases hk; omega)
                        exact bodyPost_ret (v := .tuple #[.agg #[.int .i64 z8, .slice A1 ES.length c1, .bool p0, .bool p1, .bool p2], .bool true]) (by simp [results, Tryd.results19, go_sem, hl5]) rfl (.inl ⟨z8, p0, p1, p2, ES, A1, c1, HGY.out, rfl, (HO.out.grown hg5 (.inr fun e => by have := (HO.out.block_lt _ e).1; omega)).mono (by omega), HB5⟩)
                      · have HNG := Lib.hid (nogot_right HNW.out HGE.out (by rw [show wrap64 (beTo l 8) = z8 by rw [HZ8.out]; have := HZ.out; unfold wrap64; omega]; exact hR))
                        have HRR := Lib.hid hR
                        clear hR
                        go_wp2_with fail
                        refine (refStRightV_any (v := false) (RightS.iffNo HRR.out) A1 c1 p0 p1 p2 _ HO.out.toRds HWF.out (by omega)).mono ?_; rintro e w8 ⟨rfl, hb⟩
                        have HQ := Lib.hid (HQ.out.below hb)
                        clear hb cs k9
                        go_wp2_with (refine wl_store_blk rfl 25 (.tmp 2) (.tmp 119) rfl w.heap.size 25 #[.int .i64 0, .slice none 0 0, .bool false, .bool false, .bool false] #[.int .i64 0, .slice none 0 0, .bool false, .bool false, .bool false] rfl rfl HQ.out.rb rfl infoS (by simp [Value.oneCell']) ?_; intro w5 hR5 hg5 hs5)
                        have hl5 := hR5.cell
                        have HB5 : Below w.heap.size w w5 := HQ.out.bel.grown hg5 HQ.out.bel.size (by intro k hk; cases hk; omega)
                        exact bodyPost_ret (v := .tuple #[.agg #[.int .i64 0, .slice none 0 0, .bool false, .bool false, .bool false], .bool false]) (by simp [results, Tryd.results19, go_sem, hl5]) rfl (.inr ⟨HNG.out, rfl, HB5⟩)
                    · have da : ((at_ : Int) != (l.length : Int)) = true := by simp; omega
                      have da2 : ((at_ : Int) == (l.length : Int)) = false := beq_false_of_ne (by omega)
                      have HNG := Lib.hid (nogot_rest HNW.out HGE.out (by intro e; rw [List.drop_eq_nil_iff] at e; omega))
                      clear hal
                      go_wp2_with (refine wl_store_blk rfl 25 (.tmp 2) (.tmp 119) rfl w.heap.size 25 #[.int .i64 0, .slice none 0 0, .bool false, .bool false, .bool false] #[.int .i64 0, .slice none 0 0, .bool false, .bool false, .bool false] rfl rfl HQ.out.rb rfl infoS (by simp [Value.oneCell']) ?_; intro w5 hR5 hg5 hs5)
                      have hl5 := hR5.cell
                      have HB5 : Below w.heap.size w w5 := HQ.out.bel.grown hg5 HQ.out.bel.size (by intro k hk; cases hk; omega)
                      exact bodyPost_ret (v := .tuple #[.agg #[.int .i64 0, .slice none 0 0, .bool false, .bool false, .bool false], .bool false]) (by simp [results, Tryd.results19, go_sem, hl5]) rfl (.inr ⟨HNG.out, rfl, HB5⟩)
end Go.Proofs.YtakgblgbfbpmoaaDoor
