/- rank.Ahead, rank.keys. -/
import Derived.Test.YtlnpmdchhmbblaaRankAhead
import Derived.Test.YtlnpmdchhmbblaaPush
import Derived.Outline
namespace Go.Proofs.Ytlnpmdchhmbblaa
open Go.RowKit

/-- is what one uses beyond what it asked for in an int's range? -/
structure ExOk (k : Int) (p : Pd) (l : List Us) : Prop where
  lo : -9223372036854775808 ≤ excess k p l
  hi : excess k p l ≤ 9223372036854775807
theorem keyOfV_any {k : Int} (hk : k = 0 ∨ k = 1 ∨ k = 2) {p : Pd} {s : Sp} {y : Ky} (hy : keyD k p s.uses = y) (w : World) (hr : Rds w encU s.A s.uses) (hl : s.uses.length ≤ 100000) (hs : SortedU s.uses) (he : ExOk k p s.uses) :
    Calls Try.prog 34 #[.int .i64 k, .agg p.cells, .agg s.cells] w fun e w' => e = .returned (.agg y.cells) ∧ Below w.heap.size w w' := by subst hy; exact keyOf_any k hk p s w hr hl hs he.lo he.hi
/-- what Ahead's region leaves alone -/
structure AQ (a b : Pd) (s : Sp) (w W : World) : Prop where
  rds0 : Rds w encU s.A s.uses
  pa : Blk W w.heap.size 24 a.cells
  pb : Blk W (w.heap.size + 1) 24 b.cells
  smp : Blk W (w.heap.size + 1 + 1) 36 s.cells
  bel : Below w.heap.size w W
theorem AQ.rds {a b : Pd} {s : Sp} {w W : World} (h : AQ a b s w W) : Rds W encU s.A s.uses := h.rds0.below h.bel
theorem AQ.drew {a b : Pd} {s : Sp} {w W : World} (h : AQ a b s w W) : AQ a b s w W.drew := ⟨h.rds0, h.pa.drew, h.pb.drew, h.smp.drew, h.bel.drew⟩
theorem AQ.below {a b : Pd} {s : Sp} {w W W' : World} (h : AQ a b s w W) (hb : Below W.heap.size W W') : AQ a b s w W' := ⟨h.rds0, h.pa.belowAll hb, h.pb.belowAll hb, h.smp.belowAll hb, h.bel.trans (hb.mono h.bel.size)⟩
theorem AQ.cells {a b : Pd} {s : Sp} {w W : World} (h : AQ a b s w W) : W.cell? ⟨w.heap.size, 0, none⟩ = some (.string a.id) ∧ W.cell? ⟨w.heap.size, 1, none⟩ = some (.int .i64 a.prio) ∧ W.cell? ⟨w.heap.size, 2, none⟩ = some (.bool a.crit) ∧ W.cell? ⟨w.heap.size, 3, none⟩ = some (.int .i64 a.q0) ∧ W.cell? ⟨w.heap.size, 4, none⟩ = some (.int .i64 a.q1) ∧ W.cell? ⟨w.heap.size, 5, none⟩ = some (.int .i64 a.q2) ∧ W.cell? ⟨w.heap.size, 6, none⟩ = some (.int .i64 a.l0) ∧ W.cell? ⟨w.heap.size, 7, none⟩ = some (.int .i64 a.l1) ∧ W.cell? ⟨w.heap.size, 8, none⟩ = some (.int .i64 a.l2) ∧ W.cell? ⟨w.heap.size, 9, none⟩ = some (.string a.image) ∧ W.cell? ⟨w.heap.size, 10, none⟩ = some (.int .i64 a.size) ∧ W.cell? ⟨w.heap.size + 1, 0, none⟩ = some (.string b.id) ∧ W.cell? ⟨w.heap.size + 1, 1, none⟩ = some (.int .i64 b.prio) ∧ W.cell? ⟨w.heap.size + 1, 2, none⟩ = some (.bool b.crit) ∧ W.cell? ⟨w.heap.size + 1, 3, none⟩ = some (.int .i64 b.q0) ∧ W.cell? ⟨w.heap.size + 1, 4, none⟩ = some (.int .i64 b.q1) ∧ W.cell? ⟨w.heap.size + 1, 5, none⟩ = some (.int .i64 b.q2) ∧ W.cell? ⟨w.heap.size + 1, 6, none⟩ = some (.int .i64 b.l0) ∧ W.cell? ⟨w.heap.size + 1, 7, none⟩ = some (.int .i64 b.l1) ∧ W.cell? ⟨w.heap.size + 1, 8, none⟩ = some (.int .i64 b.l2) ∧ W.cell? ⟨w.heap.size + 1, 9, none⟩ = some (.string b.image) ∧ W.cell? ⟨w.heap.size + 1, 10, none⟩ = some (.int .i64 b.size) ∧ W.cell? ⟨w.heap.size + 1 + 1, 0, none⟩ = some (.int .i64 s.time) ∧ W.cell? ⟨w.heap.size + 1 + 1, 1, none⟩ = some (.int .i64 s.v0) ∧ W.cell? ⟨w.heap.size + 1 + 1, 2, none⟩ = some (.int .i64 s.v1) ∧ W.cell? ⟨w.heap.size + 1 + 1, 3, none⟩ = some (.int .i64 s.v2) ∧ W.cell? ⟨w.heap.size + 1 + 1, 4, none⟩ = some (.slice s.A s.uses.length s.c) :=
  ⟨h.pa.cell 0, h.pa.cell 1, h.pa.cell 2, h.pa.cell 3, h.pa.cell 4, h.pa.cell 5, h.pa.cell 6, h.pa.cell 7, h.pa.cell 8, h.pa.cell 9, h.pa.cell 10, h.pb.cell 0, h.pb.cell 1, h.pb.cell 2, h.pb.cell 3, h.pb.cell 4, h.pb.cell 5, h.pb.cell 6, h.pb.cell 7, h.pb.cell 8, h.pb.cell 9, h.pb.cell 10, h.smp.cell 0, h.smp.cell 1, h.smp.cell 2, h.smp.cell 3, h.smp.cell 4⟩
theorem AQ.new (a b : Pd) (s : Sp) (w : World) (hr : Rds w encU s.A s.uses) : AQ a b s w (((w.alloc (.cells a.cells 24)).alloc (.cells b.cells 24)).alloc (.cells s.cells 36)) := by
  have hb0 : Below w.heap.size w (((w.alloc (.cells a.cells 24)).alloc (.cells b.cells 24)).alloc (.cells s.cells 36)) := (((Below.refl _ _).alloc (Nat.le_refl _) _).alloc (by simp) _).alloc (by simp; omega) _
  have hz1 : (w.alloc (.cells a.cells 24)).heap.size = w.heap.size + 1 := by simp
  have hz2 : ((w.alloc (.cells a.cells 24)).alloc (.cells b.cells 24)).heap.size = w.heap.size + 1 + 1 := by simp
  have hbs := Blk.new (w.alloc (.cells a.cells 24)) 24 b.cells
  have hbr := Blk.new ((w.alloc (.cells a.cells 24)).alloc (.cells b.cells 24)) 36 s.cells
  rw [hz1] at hbs
  rw [hz2] at hbr
  exact ⟨hr, ((Blk.new w 24 a.cells).alloc _).alloc _, hbs.alloc _, hbr, hb0⟩
theorem keyOfA {k : Int} (hk : k = 0 ∨ k = 1 ∨ k = 2) {a b p : Pd} {s : Sp} {w W : World} {y : Ky} (hy : keyD k p s.uses = y) (h : AQ a b s w W) (hl : s.uses.length ≤ 100000) (hs : SortedU s.uses) (he : ExOk k p s.uses) :
    Calls Try.prog 34 #[.int .i64 k, .agg p.cells, .agg s.cells] W fun e w' => e = .returned (.agg y.cells) ∧ Below W.heap.size W w' := keyOfV_any hk hy W h.rds hl hs he
theorem compareA {x y : Ky} {n : Int} (hn : cfK x y = n) (W : World) : Calls Try.prog 33 #[.agg x.cells, .agg y.cells] W fun e w' => e = .returned (.int .i64 n) ∧ Below W.heap.size W w' := by subst hn; exact compareK_b x y W
/-- does one pod go ahead of another? -/
def aheadB (k : Int) (a b : Pd) (l : List Us) : Bool := klt (keyD k a l) (keyD k b l)
set_option maxRecDepth 100000 in
set_option maxHeartbeats 8000000 in
theorem ahead_any (k : Int) (hk : k = 0 ∨ k = 1 ∨ k = 2) (a b : Pd) (s : Sp) (w : World) (hr : Rds w encU s.A s.uses) (hl : s.uses.length ≤ 100000) (hs : SortedU s.uses) (ha : ExOk k a s.uses) (hb : ExOk k b s.uses) :
    Calls Try.prog 15 #[.int .i64 k, .agg a.cells, .agg b.cells, .agg s.cells] w fun e w' => e = .returned (.bool (aheadB k a b s.uses)) ∧ Below w.heap.size w w' := by
  have mixed : Try.prog.follows Departure.mixedOrders = true := by kernel_rfl
  have HQ := Lib.hid (AQ.new a b s w hr).drew
  have HS := Lib.hid hs
  have HEA := Lib.hid ha
  have HEB := Lib.hid hb
  have HKK := Lib.hid hk
  clear hr hs ha hb hk
  obtain ⟨x, HX⟩ : ∃ x, Hid (keyD k a s.uses = x) := ⟨_, Lib.hid rfl⟩
  obtain ⟨y, HY⟩ : ∃ y, Hid (keyD k b s.uses = y) := ⟨_, Lib.hid rfl⟩
  obtain ⟨n, HN⟩ : ∃ n, Hid (cfK x y = n) := ⟨_, Lib.hid rfl⟩
  have HV : Hid (aheadB k a b s.uses = decide (n < 0)) := by show _ = _; unfold aheadB; rw [HX.out, HY.out, ← cfK_lt, ← HN.out]; rfl
  go_enter Try.func15, Try.ntmps15
  go_wp2_with fail
  go_region_held3 (fun w' => w'.cell? ⟨w.heap.size, 0, none⟩ = some (.string a.id) ∧ w'.cell? ⟨w.heap.size, 1, none⟩ = some (.int .i64 a.prio) ∧ w'.cell? ⟨w.heap.size, 2, none⟩ = some (.bool a.crit) ∧ w'.cell? ⟨w.heap.size, 3, none⟩ = some (.int .i64 a.q0) ∧ w'.cell? ⟨w.heap.size, 4, none⟩ = some (.int .i64 a.q1) ∧ w'.cell? ⟨w.heap.size, 5, none⟩ = some (.int .i64 a.q2) ∧ w'.cell? ⟨w.heap.size, 6, none⟩ = some (.int .i64 a.l0) ∧ w'.cell? ⟨w.heap.size, 7, none⟩ = some (.int .i64 a.l1) ∧ w'.cell? ⟨w.heap.size, 8, none⟩ = some (.int .i64 a.l2) ∧ w'.cell? ⟨w.heap.size, 9, none⟩ = some (.string a.image) ∧ w'.cell? ⟨w.heap.size, 10, none⟩ = some (.int .i64 a.size) ∧ w'.cell? ⟨w.heap.size + 1, 0, none⟩ = some (.string b.id) ∧ w'.cell? ⟨w.heap.size + 1, 1, none⟩ = some (.int .i64 b.prio) ∧ w'.cell? ⟨w.heap.size + 1, 2, none⟩ = some (.bool b.crit) ∧ w'.cell? ⟨w.heap.size + 1, 3, none⟩ = some (.int .i64 b.q0) ∧ w'.cell? ⟨w.heap.size + 1, 4, none⟩ = some (.int .i64 b.q1) ∧ w'.cell? ⟨w.heap.size + 1, 5, none⟩ = some (.int .i64 b.q2) ∧ w'.cell? ⟨w.heap.size + 1, 6, none⟩ = some (.int .i64 b.l0) ∧ w'.cell? ⟨w.heap.size + 1, 7, none⟩ = some (.int .i64 b.l1) ∧ w'.cell? ⟨w.heap.size + 1, 8, none⟩ = some (.int .i64 b.l2) ∧ w'.cell? ⟨w.heap.size + 1, 9, none⟩ = some (.string b.image) ∧ w'.cell? ⟨w.heap.size + 1, 10, none⟩ = some (.int .i64 b.size) ∧ w'.cell? ⟨w.heap.size + 1 + 1, 0, none⟩ = some (.int .i64 s.time) ∧ w'.cell? ⟨w.heap.size + 1 + 1, 1, none⟩ = some (.int .i64 s.v0) ∧ w'.cell? ⟨w.heap.size + 1 + 1, 2, none⟩ = some (.int .i64 s.v1) ∧ w'.cell? ⟨w.heap.size + 1 + 1, 3, none⟩ = some (.int .i64 s.v2) ∧ w'.cell? ⟨w.heap.size + 1 + 1, 4, none⟩ = some (.slice s.A s.uses.length s.c)) (first | with_reducible exact HQ.out.cells)
   (first
     | (go_at_call 34; (first | with_reducible refine (keyOfA HKK.out HX.out HQ.out hl HS.out HEA.out).mono ?_ | with_reducible refine (keyOfA HKK.out HY.out HQ.out hl HS.out HEB.out).mono ?_); rintro e v1 ⟨rfl, hb⟩; have HQ := Lib.hid (HQ.out.below hb); clear hb)
     | (go_at_call 33; refine (compareA HN.out _).mono ?_; rintro e v1 ⟨rfl, hb⟩; have HQ := Lib.hid (HQ.out.below hb); clear hb))
  all_goals
    go_wp2_with fail
    go_ret
    exact ⟨ret_bool HV.out.symm, HQ.out.bel⟩

/-! ### keys -/
def encN : Enc En 12 := ⟨fun p => p.cells.toList, fun _ => rfl, fun p u hu => by simp at hu; rcases hu with h | h | h | h | h | h | h | h | h | h | h | h <;> subst h <;> rfl, by decide⟩
theorem Rds.en {w : World} {A : Option Addr} {l : List En} (h : Rds w encN A l) {i : Nat} (hi : i < l.length) : ∃ b off, A = some ⟨b, off, none⟩ ∧ b < w.heap.size ∧
    w.cell? ⟨b, off + i * 12, none⟩ = some (.string l[i].pod.id) ∧ w.cell? ⟨b, off + i * 12 + 1, none⟩ = some (.int .i64 l[i].pod.prio) ∧ w.cell? ⟨b, off + i * 12 + 2, none⟩ = some (.bool l[i].pod.crit) ∧
    w.cell? ⟨b, off + i * 12 + 3, none⟩ = some (.int .i64 l[i].pod.q0) ∧ w.cell? ⟨b, off + i * 12 + 4, none⟩ = some (.int .i64 l[i].pod.q1) ∧ w.cell? ⟨b, off + i * 12 + 5, none⟩ = some (.int .i64 l[i].pod.q2) ∧
    w.cell? ⟨b, off + i * 12 + 6, none⟩ = some (.int .i64 l[i].pod.l0) ∧ w.cell? ⟨b, off + i * 12 + 7, none⟩ = some (.int .i64 l[i].pod.l1) ∧ w.cell? ⟨b, off + i * 12 + 8, none⟩ = some (.int .i64 l[i].pod.l2) ∧
    w.cell? ⟨b, off + i * 12 + 9, none⟩ = some (.string l[i].pod.image) ∧ w.cell? ⟨b, off + i * 12 + 10, none⟩ = some (.int .i64 l[i].pod.size) ∧ w.cell? ⟨b, off + i * 12 + 11, none⟩ = some (.int .i64 l[i].phase) := by
  obtain ⟨b, off, e, hb, hc⟩ := h.at_ hi
  exact ⟨b, off, e, hb, by have := hc 0 (.string l[i].pod.id) rfl; simpa using this, hc 1 (.int .i64 l[i].pod.prio) rfl, hc 2 (.bool l[i].pod.crit) rfl, hc 3 (.int .i64 l[i].pod.q0) rfl, hc 4 (.int .i64 l[i].pod.q1) rfl, hc 5 (.int .i64 l[i].pod.q2) rfl, hc 6 (.int .i64 l[i].pod.l0) rfl, hc 7 (.int .i64 l[i].pod.l1) rfl, hc 8 (.int .i64 l[i].pod.l2) rfl, hc 9 (.string l[i].pod.image) rfl, hc 10 (.int .i64 l[i].pod.size) rfl, hc 11 (.int .i64 l[i].phase) rfl⟩
def keysD (k : Int) (l : List En) (us : List Us) : List Ky := (l.filter mayB).map fun e => keyD k e.pod us
theorem keysD_snoc (k : Int) (l : List En) (us : List Us) (x : En) : keysD k (l ++ [x]) us = keysD k l us ++ (if mayB x then [keyD k x.pod us] else []) := by
  unfold keysD
  rw [List.filter_append, List.map_append]
  congr 1
  cases h : mayB x <;> simp [h]
theorem keysD_len (k : Int) (l : List En) (us : List Us) : (keysD k l us).length ≤ l.length := by unfold keysD; rw [List.length_map]; exact List.length_filter_le _ _
theorem elemK : Elem Try.prog 73 66 4 40 := by
  obtain ⟨i, h1, h2, h3, h4⟩ := info_parts (show (Try.prog.info? 66).map (fun i => (i.zero, i.size, i.bytes)) = some (some (.agg #[.int .i64 0, .int .i64 0, .int .i64 0, .string ⟨#[]⟩]), 4, 40) by kernel_rfl)
  exact ⟨Try.underlying73, i, _, h1, h2, h3, h4, rfl⟩
/-- it gives these keys, in memory of its own -/
def GivesK (L : List Ky) (w : World) (e : Ending) (w' : World) : Prop := ∃ A c, e = .returned (.slice A L.length c) ∧ Own w' w.heap.size 66 encK (.slice A L.length c) L ∧ Below w.heap.size w w'
theorem mayV_any {x : En} {b : Bool} (hb : mayB x = b) (w : World) :
    Calls Try.prog 23 #[.agg x.cells] w fun e w' => e = .returned (.bool b) ∧ Below w.heap.size w w' := by subst hb; exact may_any x w
set_option maxRecDepth 100000 in
set_option maxHeartbeats 16000000 in
theorem keys_any (k : Int) (hk : k = 0 ∨ k = 1 ∨ k = 2) (l : List En) (A : Option Addr) (c : Nat) (s : Sp) (w : World) (hr : Rds w encU s.A s.uses) (hl : s.uses.length ≤ 100000) (hs : SortedU s.uses) (hrn : Rds w encN A l) (hln : l.length ≤ 100000) (hx : ∀ x ∈ l, ExOk k x.pod s.uses) :
    Calls Try.prog 38 #[.int .i64 k, .slice A l.length c, .agg s.cells] w (GivesK (keysD k l s.uses) w) := by
  have HB0 := Lib.hid ((Below.refl w.heap.size w).alloc (Nat.le_refl _) (.cells s.cells 36))
  have HSB := Lib.hid (Blk.new w 36 s.cells)
  have HR := Lib.hid hr
  have HRN := Lib.hid hrn
  have HS := Lib.hid hs
  have HX := Lib.hid hx
  have HKK := Lib.hid hk
  clear hr hrn hs hx hk
  go_enter Try.func38, Try.ntmps38
  go_wp2_with fail
  go_loopw [7, 12] (fun out ii wr => ∃ (i : Nat) (m : List Ky) (A' : Option Addr) (c' : Nat), i ≤ l.length ∧ ii = .int .i64 i ∧ m = keysD k (l.take i) s.uses ∧ out = .slice A' m.length c' ∧ Own wr w.heap.size 66 encK (.slice A' m.length c') m ∧ Below w.heap.size w wr ∧ Blk wr w.heap.size 36 s.cells) (fun _ ii _ => l.length - (intOf ii).toNat)
  case atStart => exact ⟨0, [], none, 0, by omega, rfl, rfl, rfl, Own.nil_ _ _ _ _, HB0.out, HSB.out⟩
  case round =>
    clear HB0 HSB
    obtain ⟨i, m, A', c', hi, rfl, hm', rfl, hO, hB, hSm⟩ := hrel
    have hml : m.length ≤ 100000 := by have := keysD_len k (l.take i) s.uses; rw [← hm', List.length_take] at this; omega
    have HM := Lib.hid hm'
    have HP := Lib.hid (And.intro hO (And.intro hB hSm))
    clear hm' hO hB hSm
    by_cases hlt : i < l.length
    · obtain ⟨b0, off, rfl, hb0, c0, c1, c2, c3, c4, c5, c6, c7, c8, c9, c10, c11⟩ := (HRN.out.below HP.out.2.1).en hlt
      have dk : decide ((i : Int) < (l.length : Int)) = true := decide_eq_true (by omega)
      have dk2 : (i : Int) < (l.length : Int) := by omega
      have HT := Lib.hid (show keysD k (l.take (i + 1)) s.uses = m ++ (if mayB l[i] then [keyD k l[i].pod s.uses] else []) by rw [HM.out, List.take_succ_eq_append_getElem hlt, keysD_snoc])
      have HXI := Lib.hid (HX.out l[i] (List.getElem_mem hlt))
      generalize l[i] = x at *
      have HBX := Lib.hid (Blk.new wr 48 x.cells)
      have HP1 := Lib.hid (And.intro (HP.out.1.alloc (.cells x.cells 48)) (And.intro (HP.out.2.1.alloc HP.out.2.1.size (.cells x.cells 48)) (HP.out.2.2.alloc (.cells x.cells 48))))
      clear HP
      cases hh : mayB x
      · have HN : Hid (keysD k (l.take (i + 1)) s.uses = m) := by show _ = _; rw [HT.out, hh]; simp
        go_wp2_with fail
        refine (mayV_any hh _).mono ?_; rintro e wa ⟨rfl, hb⟩
        have HP2 := Lib.hid (And.intro (HP1.out.1.below hb (Nat.le_refl _)) (And.intro (HP1.out.2.1.trans (hb.mono HP1.out.2.1.size)) (HP1.out.2.2.belowAll hb)))
        clear hb HP1 hh HT
        go_wp2_with fail
        go_roundw
        case rel => exact ⟨i + 1, m, A', c', by omega, by go_num, HN.out.symm, rfl, HP2.out.1, HP2.out.2.1, HP2.out.2.2⟩
        case measure => simp [intOf]; omega
      · obtain ⟨y, HY⟩ : ∃ y, Hid (keyD k x.pod s.uses = y) := ⟨_, Lib.hid rfl⟩
        have HN : Hid (keysD k (l.take (i + 1)) s.uses = m ++ [y]) := by show _ = _; rw [HT.out, hh, ← HY.out]; simp
        go_wp2_with fail
        refine (mayV_any hh _).mono ?_; rintro e wa ⟨rfl, hb⟩
        have HP2 := Lib.hid (And.intro (HP1.out.1.below hb (Nat.le_refl _)) (And.intro (HP1.out.2.1.trans (hb.mono HP1.out.2.1.size)) (HP1.out.2.2.belowAll hb)))
        have hbx := HBX.out.belowAll hb
        have x0 := hbx.cell
        have s0 := HP2.out.2.2.cell
        clear hb HP1 hh HT HBX
        go_wp2_with fail
        refine (keyOfV_any HKK.out HY.out _ (HR.out.below HP2.out.2.1) hl HS.out HXI.out).mono ?_; rintro e wb ⟨rfl, hb⟩
        have HP3 := Lib.hid (And.intro (HP2.out.1.below hb (Nat.le_refl _)) (And.intro (HP2.out.2.1.trans (hb.mono HP2.out.2.1.size)) (HP2.out.2.2.belowAll hb)))
        clear hb HP2 x0 s0 hbx
        go_wp2_with (at_builtin; refine wl_push elemK encK rfl (.tmp 18) (.tmp 24) rfl y y.cells rfl w.heap.size _ m rfl HP3.out.1 rfl (by simp) HP3.out.2.1 (by omega) (by omega) HP3.out.2.1.size ?_; intro A3 k3 w3 ho hb hg; have HX3 := Lib.hid (And.intro ho hb); have hs3 := Lib.hid ((HP3.out.2.2.alloc (.cells y.cells 66)).grown hg (HP3.out.1.ne_blk HP3.out.2.2 (by decide))); clear ho hb hg)
        go_roundw
        case rel => exact ⟨i + 1, m ++ [y], A3, k3, by omega, by go_num, HN.out.symm, by simp, own_len1 HX3.out.1, HX3.out.2, hs3.out⟩
        case measure => simp [intOf]; omega
    · obtain rfl : i = l.length := by omega
      have dk : decide ((l.length : Int) < (l.length : Int)) = false := by simp
      rw [List.take_length] at HM
      go_wp2_with fail
      go_ret
      exact ⟨A', c', by rw [← HM.out]; rfl, by rw [← HM.out]; exact HP.out.1, HP.out.2.1⟩
end Go.Proofs.Ytlnpmdchhmbblaa
