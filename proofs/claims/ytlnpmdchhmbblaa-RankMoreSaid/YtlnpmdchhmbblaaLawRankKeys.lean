/- bilgelaw20.RankKeys: over goes ahead of within, whatever the priorities. -/
import Derived.Test.YtlnpmdchhmbblaaRankAwake
import Derived.Test.YtlnpmdchhmbblaaFewR
namespace Go.Proofs.Ytlnpmdchhmbblaa
open Go.RowKit

/-- two pods in boxes of their own -/
structure PQ (a b : Pd) (w W : World) : Prop where
  pa : Blk W w.heap.size 24 a.cells
  pb : Blk W (w.heap.size + 1) 24 b.cells
  bel : Below w.heap.size w W
theorem PQ.below {a b : Pd} {w W W' : World} (h : PQ a b w W) (hb : Below W.heap.size W W') : PQ a b w W' := ⟨h.pa.belowAll hb, h.pb.belowAll hb, h.bel.trans (hb.mono h.bel.size)⟩
theorem PQ.alloc {a b : Pd} {w W : World} (h : PQ a b w W) (o : Obj) : PQ a b w (W.alloc o) := ⟨h.pa.alloc o, h.pb.alloc o, h.bel.alloc h.bel.size o⟩
theorem PQ.new (a b : Pd) (w : World) : PQ a b w ((w.alloc (.cells a.cells 24)).alloc (.cells b.cells 24)) := by
  have hz : (w.alloc (.cells a.cells 24)).heap.size = w.heap.size + 1 := by simp
  have hb := Blk.new (w.alloc (.cells a.cells 24)) 24 b.cells
  rw [hz] at hb
  exact ⟨(Blk.new w 24 a.cells).alloc _, hb, ((Below.refl _ _).alloc (Nat.le_refl _) _).alloc (by simp) _⟩
theorem few2_any {a b : Pd} {v : Bool} (hv : fewB [a, b] = v) (w : World) :
    Calls Try.prog 12 #[.slice (some ⟨w.heap.size, 0, none⟩) 2 2] (w.alloc (.cells (a.cells ++ b.cells) 24)) fun e w' => e = .returned (.bool v) ∧ Below (w.alloc (.cells (a.cells ++ b.cells) 24)).heap.size (w.alloc (.cells (a.cells ++ b.cells) 24)) w' := by
  subst hv
  exact few_any [a, b] _ 2 _ (Rds.made w encP [a, b] 24 _ (0, 0) rfl) (by simp)
theorem rightV_any {p : Pd} {v : Bool} (hv : p.right = v) (w : World) (hp : p.Wf) :
    Calls Try.prog 13 #[.agg p.cells] w fun e w' => e = .returned (.bool v) ∧ Below w.heap.size w w' := by subst hv; exact refRight_any p w hp
/-! ### the plain law -/
theorem usOf2 {a b : ByteArray} (hab : blt a b = true) (x y : Us) (hx : x.id = a) (hy : y.id = b) : SortedU [x, y] ∧ usOf [x, y] a = x ∧ usOf [x, y] b = y := by
  subst hx hy
  have hba : blt y.id x.id = false := by
    cases h : blt y.id x.id
    · rfl
    · have := blt_trans hab h; rw [blt_irrefl] at this; cases this
  refine ⟨fun i j h hj => ?_, ?_, ?_⟩
  · simp at hj
    obtain rfl : i = 0 := by omega
    obtain rfl : j = 1 := by omega
    exact hab
  · have h : lowerU [x, y] x.id = 0 := by unfold lowerU; simp [blt_irrefl, hba]
    unfold usOf isAtU
    rw [h]
    simp
  · have h : lowerU [x, y] y.id = 1 := by unfold lowerU; simp [blt_irrefl, hab]
    unfold usOf isAtU
    rw [h]
    simp
theorem right_q1 {p : Pd} (h : p.right = true) : 0 ≤ p.q1 := by
  unfold Pd.right Pd.amountsOk bad at h
  simp at h
  omega
abbrev us2 (a b : Pd) (x y : Int) : List Us := [⟨a.id, x, 0, 0⟩, ⟨b.id, y, 0, 0⟩]
theorem ex2_a {a b : Pd} (hab : blt a.id b.id = true) (x y : Int) : excess 0 a (us2 a b x y) = x - a.q1 := by unfold excess; rw [(usOf2 hab ⟨a.id, x, 0, 0⟩ ⟨b.id, y, 0, 0⟩ rfl rfl).2.1]; rfl
theorem ex2_b {a b : Pd} (hab : blt a.id b.id = true) (x y : Int) : excess 0 b (us2 a b x y) = y - b.q1 := by unfold excess; rw [(usOf2 hab ⟨a.id, x, 0, 0⟩ ⟨b.id, y, 0, 0⟩ rfl rfl).2.2]; rfl
theorem ahead2 {a b : Pd} (hab : blt a.id b.id = true) {x y p q : Int} (hp : x - a.q1 = p) (hq : y - b.q1 = q) :
    aheadB 0 a b (us2 a b x y) = true ↔ (0 < p ∧ ¬ 0 < q) ∨ ((0 < p ↔ 0 < q) ∧ (a.prio < b.prio ∨ (a.prio = b.prio ∧ q ≤ p))) := by
  unfold aheadB keyD
  rw [ex2_a hab, ex2_b hab, hp, hq, klt_iff]
  simp only [hab, and_true]
  by_cases h1 : 0 < p
  · by_cases h2 : 0 < q
    · rw [if_pos h1, if_pos h2]; omega
    · rw [if_pos h1, if_neg h2]; omega
  · by_cases h2 : 0 < q
    · rw [if_neg h1, if_pos h2]; omega
    · rw [if_neg h1, if_neg h2]; omega
theorem ahead_lit {a b : Pd} {x y : Int} {v : Bool} {N : Nat} {W : World} (hab : blt a.id b.id = true) (hv : aheadB 0 a b (us2 a b x y) = v) (hr : Rds W encU (some ⟨N, 0, none⟩) (us2 a b x y)) (ha : ExOk 0 a (us2 a b x y)) (hb : ExOk 0 b (us2 a b x y)) :
    Calls Try.prog 15 #[.int .i64 0, .agg a.cells, .agg b.cells, .agg #[.int .i64 0, .int .i64 0, .int .i64 0, .int .i64 0, .slice (some ⟨N, 0, none⟩) 2 2]] W fun e w' => e = .returned (.bool v) ∧ Below W.heap.size W w' :=
  aheadV_any (s := ⟨0, 0, 0, 0, some ⟨N, 0, none⟩, us2 a b x y, 2⟩) (by decide) hv W hr (show (us2 a b x y).length ≤ 100000 by simp) (usOf2 hab ⟨a.id, x, 0, 0⟩ ⟨b.id, y, 0, 0⟩ rfl rfl).1 ha hb

set_option maxRecDepth 100000 in
set_option maxHeartbeats 16000000 in
theorem rankKeys_any (a b : Pd) (x y : Nat) (ha : a.Wf) (hb : b.Wf) (hx : x < 4294967296) (hy : y < 4294967296) (w : World) :
    Calls Try.prog 4 #[.agg a.cells, .agg b.cells, .int .u32 x, .int .u32 y] w fun e w' => e = .returned (.bool true) ∧ Below w.heap.size w w' := by
  have HQ := Lib.hid (PQ.new a b w)
  have HA := Lib.hid ha
  have HB := Lib.hid hb
  clear ha hb
  have hwx : IntKind.i64.wrap (x : Int) = (x : Int) := by rw [IntKind.wrap_i64]; omega
  have hwy : IntKind.i64.wrap (y : Int) = (y : Int) := by rw [IntKind.wrap_i64]; omega
  go_enter Try.func4, Try.ntmps4
  go_wp2_with fail
  refine (awake20_any _).mono ?_; rintro e w1 ⟨rfl, hb⟩
  have HQ := Lib.hid (HQ.out.below hb)
  clear hb
  have ca := HQ.out.pa.cell
  have cb := HQ.out.pb.cell
  cases hf : fewB [a, b]
  · go_wp2_with fail
    refine (few2_any hf w1).mono ?_; rintro e wv ⟨rfl, hb⟩
    have HQ := Lib.hid ((HQ.out.alloc _).below hb)
    clear hb ca cb hf
    go_wp2_with fail
    refine (awake20_any _).mono ?_; rintro e w9 ⟨rfl, hb⟩
    have HQ := Lib.hid (HQ.out.below hb)
    clear hb
    go_wp2_with fail
    go_ret
    exact ⟨rfl, HQ.out.bel⟩
  · go_wp2_with fail
    refine (few2_any hf w1).mono ?_; rintro e wv ⟨rfl, hb⟩
    have HQ := Lib.hid ((HQ.out.alloc _).below hb)
    clear hb ca cb hf
    have ca := HQ.out.pa.cell
    cases hra : a.right
    · go_wp2_with fail
      refine (rightV_any hra _ HA.out).mono ?_; rintro e wv ⟨rfl, hb⟩
      have HQ := Lib.hid (HQ.out.below hb)
      clear hb ca
      clear hra
      go_wp2_with fail
      refine (awake20_any _).mono ?_; rintro e w9 ⟨rfl, hb⟩
      have HQ := Lib.hid (HQ.out.below hb)
      clear hb
      go_wp2_with fail
      go_ret
      exact ⟨rfl, HQ.out.bel⟩
    · go_wp2_with fail
      refine (rightV_any hra _ HA.out).mono ?_; rintro e wv ⟨rfl, hb⟩
      have HQ := Lib.hid (HQ.out.below hb)
      clear hb ca
      have hqa := right_q1 hra
      clear hra
      have cb := HQ.out.pb.cell
      cases hrb : b.right
      · go_wp2_with fail
        refine (rightV_any hrb _ HB.out).mono ?_; rintro e wv ⟨rfl, hb⟩
        have HQ := Lib.hid (HQ.out.below hb)
        clear hb cb
        clear hrb
        go_wp2_with fail
        refine (awake20_any _).mono ?_; rintro e w9 ⟨rfl, hb⟩
        have HQ := Lib.hid (HQ.out.below hb)
        clear hb
        go_wp2_with fail
        go_ret
        exact ⟨rfl, HQ.out.bel⟩
      · go_wp2_with fail
        refine (rightV_any hrb _ HB.out).mono ?_; rintro e wv ⟨rfl, hb⟩
        have HQ := Lib.hid (HQ.out.below hb)
        clear hb cb
        have hqb := right_q1 hrb
        clear hrb
        have ca := HQ.out.pa.cell
        have cb := HQ.out.pb.cell
        cases hab : blt a.id b.id
        · have hab2 : Op.bytesLess a.id.toList b.id.toList = false := hab
          go_wp2_with fail
          refine (awake20_any _).mono ?_; rintro e w9 ⟨rfl, hb⟩
          have HQ := Lib.hid (HQ.out.below hb)
          clear hb
          go_wp2_with fail
          go_ret
          exact ⟨rfl, HQ.out.bel⟩
        · have hab2 : Op.bytesLess a.id.toList b.id.toList = true := hab
          by_cases h1 : 1000000000 < a.q1
          · have d1 : decide (1000000000 < a.q1) = true := decide_eq_true h1
            go_wp2_with fail
            refine (awake20_any _).mono ?_; rintro e w9 ⟨rfl, hb⟩
            have HQ := Lib.hid (HQ.out.below hb)
            clear hb
            go_wp2_with fail
            go_ret
            exact ⟨rfl, HQ.out.bel⟩
          by_cases h2 : 1000000000 < b.q1
          · have d1 : decide (1000000000 < a.q1) = false := decide_eq_false h1
            have d2 : decide (1000000000 < b.q1) = true := decide_eq_true h2
            go_wp2_with fail
            refine (awake20_any _).mono ?_; rintro e w9 ⟨rfl, hb⟩
            have HQ := Lib.hid (HQ.out.below hb)
            clear hb
            go_wp2_with fail
            go_ret
            exact ⟨rfl, HQ.out.bel⟩
          have d1 : decide (1000000000 < a.q1) = false := decide_eq_false h1
          have d2 : decide (1000000000 < b.q1) = false := decide_eq_false h2
          obtain ⟨p, hp⟩ : ∃ p, (x : Int) - a.q1 = p := ⟨_, rfl⟩
          obtain ⟨q, hq⟩ : ∃ q, (y : Int) - b.q1 = q := ⟨_, rfl⟩
          have hwp : IntKind.i64.wrap ((x : Int) - a.q1) = p := by rw [IntKind.wrap_i64]; omega
          have hwq : IntKind.i64.wrap ((y : Int) - b.q1) = q := by rw [IntKind.wrap_i64]; omega
          have hus := (Rds.made wv encU (us2 a b x y) 33 #[.string a.id, .int .i64 x, .int .i64 0, .int .i64 0, .string b.id, .int .i64 y, .int .i64 0, .int .i64 0] (0, 0) rfl).alloc (.cells #[.int .i64 0, .int .i64 0, .int .i64 0, .int .i64 0, .slice (some ⟨wv.heap.size, 0, none⟩) 2 2] 36)
          have hsm := Blk.new (wv.alloc (.cells #[.string a.id, .int .i64 x, .int .i64 0, .int .i64 0, .string b.id, .int .i64 y, .int .i64 0, .int .i64 0] 33)) 36 #[.int .i64 0, .int .i64 0, .int .i64 0, .int .i64 0, .slice (some ⟨wv.heap.size, 0, none⟩) 2 2]
          have hz : (wv.alloc (.cells #[.string a.id, .int .i64 x, .int .i64 0, .int .i64 0, .string b.id, .int .i64 y, .int .i64 0, .int .i64 0] 33)).heap.size = wv.heap.size + 1 := by simp
          rw [hz] at hsm
          clear hz
          have HQ2 := Lib.hid ((HQ.out.alloc (.cells #[.string a.id, .int .i64 x, .int .i64 0, .int .i64 0, .string b.id, .int .i64 y, .int .i64 0, .int .i64 0] 33)).alloc (.cells #[.int .i64 0, .int .i64 0, .int .i64 0, .int .i64 0, .slice (some ⟨wv.heap.size, 0, none⟩) 2 2] 36))
          have HSM := Lib.hid (And.intro hus hsm)
          have ca2 := HQ2.out.pa.cell
          have cb2 := HQ2.out.pb.cell
          have cs2 := hsm.cell
          have HEA : Hid (ExOk 0 a (us2 a b x y)) := ⟨by rw [ex2_a hab]; omega, by rw [ex2_a hab]; omega⟩
          have HEB : Hid (ExOk 0 b (us2 a b x y)) := ⟨by rw [ex2_b hab]; omega, by rw [ex2_b hab]; omega⟩
          have HG := Lib.hid (ahead2 hab hp hq)
          have HAB := Lib.hid hab
          clear hus hsm hp hq
          by_cases fp : 0 < p
          · by_cases fq : 0 < q
            · -- case
              by_cases fe : a.prio = b.prio
              · have de : (a.prio != b.prio) = false := by rw [fe]; simp
                by_cases fg : q ≤ p
                · -- case
                  have HGG : Hid (aheadB 0 a b (us2 a b x y) = true) := HG.out.2 (by omega)
                  clear HG
                  have dp : decide (0 < p) = true := decide_eq_true (by omega)
                  have dq : decide (0 < q) = true := decide_eq_true (by omega)
                  have dp2 : decide (p ≤ 0) = false := decide_eq_false (by omega)
                  have dq2 : decide (q ≤ 0) = false := decide_eq_false (by omega)
                  
                  
                  have dg : decide (q ≤ p) = true := decide_eq_true (by omega)
                  clear fe
                  go_wp2_with fail
                  refine (ahead_lit HAB.out HGG.out HSM.out.1 HEA.out HEB.out).mono ?_; rintro e wz ⟨rfl, hb⟩
                  have HQ := Lib.hid (HQ2.out.below hb)
                  clear hb ca cb ca2 cb2 cs2 HQ2 HSM HGG HAB HEA HEB d1 d2
                  have ca := HQ.out.pa.cell
                  have cb := HQ.out.pb.cell
                  go_wp2_with fail
                  go_ret
                  exact ⟨rfl, HQ.out.bel⟩
                · -- case
                  have HGG : Hid (aheadB 0 a b (us2 a b x y) = false) := by cases hgg : aheadB 0 a b (us2 a b x y) with | false => rfl | true => (have := HG.out.1 hgg; omega)
                  clear HG
                  have dp : decide (0 < p) = true := decide_eq_true (by omega)
                  have dq : decide (0 < q) = true := decide_eq_true (by omega)
                  have dp2 : decide (p ≤ 0) = false := decide_eq_false (by omega)
                  have dq2 : decide (q ≤ 0) = false := decide_eq_false (by omega)
                  
                  
                  have dg : decide (q ≤ p) = false := decide_eq_false (by omega)
                  clear fe
                  go_wp2_with fail
                  refine (ahead_lit HAB.out HGG.out HSM.out.1 HEA.out HEB.out).mono ?_; rintro e wz ⟨rfl, hb⟩
                  have HQ := Lib.hid (HQ2.out.below hb)
                  clear hb ca cb ca2 cb2 cs2 HQ2 HSM HGG HAB HEA HEB d1 d2
                  have ca := HQ.out.pa.cell
                  have cb := HQ.out.pb.cell
                  go_wp2_with fail
                  go_ret
                  exact ⟨rfl, HQ.out.bel⟩
              · have de : (a.prio != b.prio) = true := bne_iff_ne.2 fe
                by_cases fl : a.prio < b.prio
                · -- case
                  have HGG : Hid (aheadB 0 a b (us2 a b x y) = true) := HG.out.2 (by omega)
                  clear HG
                  have dp : decide (0 < p) = true := decide_eq_true (by omega)
                  have dq : decide (0 < q) = true := decide_eq_true (by omega)
                  have dp2 : decide (p ≤ 0) = false := decide_eq_false (by omega)
                  have dq2 : decide (q ≤ 0) = false := decide_eq_false (by omega)
                  
                  
                  have dl : decide (a.prio < b.prio) = true := decide_eq_true (by omega)
                  go_wp2_with fail
                  refine (ahead_lit HAB.out HGG.out HSM.out.1 HEA.out HEB.out).mono ?_; rintro e wz ⟨rfl, hb⟩
                  have HQ := Lib.hid (HQ2.out.below hb)
                  clear hb ca cb ca2 cb2 cs2 HQ2 HSM HGG HAB HEA HEB d1 d2
                  have ca := HQ.out.pa.cell
                  have cb := HQ.out.pb.cell
                  go_wp2_with fail
                  go_ret
                  exact ⟨rfl, HQ.out.bel⟩
                · -- case
                  have HGG : Hid (aheadB 0 a b (us2 a b x y) = false) := by cases hgg : aheadB 0 a b (us2 a b x y) with | false => rfl | true => (have := HG.out.1 hgg; omega)
                  clear HG
                  have dp : decide (0 < p) = true := decide_eq_true (by omega)
                  have dq : decide (0 < q) = true := decide_eq_true (by omega)
                  have dp2 : decide (p ≤ 0) = false := decide_eq_false (by omega)
                  have dq2 : decide (q ≤ 0) = false := decide_eq_false (by omega)
                  
                  
                  have dl : decide (a.prio < b.prio) = false := decide_eq_false (by omega)
                  go_wp2_with fail
                  refine (ahead_lit HAB.out HGG.out HSM.out.1 HEA.out HEB.out).mono ?_; rintro e wz ⟨rfl, hb⟩
                  have HQ := Lib.hid (HQ2.out.below hb)
                  clear hb ca cb ca2 cb2 cs2 HQ2 HSM HGG HAB HEA HEB d1 d2
                  have ca := HQ.out.pa.cell
                  have cb := HQ.out.pb.cell
                  go_wp2_with fail
                  go_ret
                  exact ⟨rfl, HQ.out.bel⟩
            · -- case
              have HGG : Hid (aheadB 0 a b (us2 a b x y) = true) := HG.out.2 (by omega)
              clear HG
              have dp : decide (0 < p) = true := decide_eq_true (by omega)
              have dq : decide (0 < q) = false := decide_eq_false (by omega)
              have dp2 : decide (p ≤ 0) = false := decide_eq_false (by omega)
              have dq2 : decide (q ≤ 0) = true := decide_eq_true (by omega)
              
              have fq2 : q ≤ 0 := by omega
              go_wp2_with fail
              refine (ahead_lit HAB.out HGG.out HSM.out.1 HEA.out HEB.out).mono ?_; rintro e wz ⟨rfl, hb⟩
              have HQ := Lib.hid (HQ2.out.below hb)
              clear hb ca cb ca2 cb2 cs2 HQ2 HSM HGG HAB HEA HEB d1 d2
              have ca := HQ.out.pa.cell
              have cb := HQ.out.pb.cell
              go_wp2_with fail
              go_ret
              exact ⟨rfl, HQ.out.bel⟩
          · by_cases fq : 0 < q
            · -- case
              have HGG : Hid (aheadB 0 a b (us2 a b x y) = false) := by cases hgg : aheadB 0 a b (us2 a b x y) with | false => rfl | true => (have := HG.out.1 hgg; omega)
              clear HG
              have dp : decide (0 < p) = false := decide_eq_false (by omega)
              have dq : decide (0 < q) = true := decide_eq_true (by omega)
              have dp2 : decide (p ≤ 0) = true := decide_eq_true (by omega)
              have dq2 : decide (q ≤ 0) = false := decide_eq_false (by omega)
              have fp2 : p ≤ 0 := by omega
              
              go_wp2_with fail
              refine (ahead_lit HAB.out HGG.out HSM.out.1 HEA.out HEB.out).mono ?_; rintro e wz ⟨rfl, hb⟩
              have HQ := Lib.hid (HQ2.out.below hb)
              clear hb ca cb ca2 cb2 cs2 HQ2 HSM HGG HAB HEA HEB d1 d2
              have ca := HQ.out.pa.cell
              have cb := HQ.out.pb.cell
              go_wp2_with fail
              go_ret
              exact ⟨rfl, HQ.out.bel⟩
            · -- case
              by_cases fe : a.prio = b.prio
              · have de : (a.prio != b.prio) = false := by rw [fe]; simp
                by_cases fg : q ≤ p
                · -- case
                  have HGG : Hid (aheadB 0 a b (us2 a b x y) = true) := HG.out.2 (by omega)
                  clear HG
                  have dp : decide (0 < p) = false := decide_eq_false (by omega)
                  have dq : decide (0 < q) = false := decide_eq_false (by omega)
                  have dp2 : decide (p ≤ 0) = true := decide_eq_true (by omega)
                  have dq2 : decide (q ≤ 0) = true := decide_eq_true (by omega)
                  have fp2 : p ≤ 0 := by omega
                  have fq2 : q ≤ 0 := by omega
                  have dg : decide (q ≤ p) = true := decide_eq_true (by omega)
                  clear fe
                  go_wp2_with fail
                  refine (ahead_lit HAB.out HGG.out HSM.out.1 HEA.out HEB.out).mono ?_; rintro e wz ⟨rfl, hb⟩
                  have HQ := Lib.hid (HQ2.out.below hb)
                  clear hb ca cb ca2 cb2 cs2 HQ2 HSM HGG HAB HEA HEB d1 d2
                  have ca := HQ.out.pa.cell
                  have cb := HQ.out.pb.cell
                  go_wp2_with fail
                  go_ret
                  exact ⟨rfl, HQ.out.bel⟩
                · -- case
                  have HGG : Hid (aheadB 0 a b (us2 a b x y) = false) := by cases hgg : aheadB 0 a b (us2 a b x y) with | false => rfl | true => (have := HG.out.1 hgg; omega)
                  clear HG
                  have dp : decide (0 < p) = false := decide_eq_false (by omega)
                  have dq : decide (0 < q) = false := decide_eq_false (by omega)
                  have dp2 : decide (p ≤ 0) = true := decide_eq_true (by omega)
                  have dq2 : decide (q ≤ 0) = true := decide_eq_true (by omega)
                  have fp2 : p ≤ 0 := by omega
                  have fq2 : q ≤ 0 := by omega
                  have dg : decide (q ≤ p) = false := decide_eq_false (by omega)
                  clear fe
                  go_wp2_with fail
                  refine (ahead_lit HAB.out HGG.out HSM.out.1 HEA.out HEB.out).mono ?_; rintro e wz ⟨rfl, hb⟩
                  have HQ := Lib.hid (HQ2.out.below hb)
                  clear hb ca cb ca2 cb2 cs2 HQ2 HSM HGG HAB HEA HEB d1 d2
                  have ca := HQ.out.pa.cell
                  have cb := HQ.out.pb.cell
                  go_wp2_with fail
                  go_ret
                  exact ⟨rfl, HQ.out.bel⟩
              · have de : (a.prio != b.prio) = true := bne_iff_ne.2 fe
                by_cases fl : a.prio < b.prio
                · -- case
                  have HGG : Hid (aheadB 0 a b (us2 a b x y) = true) := HG.out.2 (by omega)
                  clear HG
                  have dp : decide (0 < p) = false := decide_eq_false (by omega)
                  have dq : decide (0 < q) = false := decide_eq_false (by omega)
                  have dp2 : decide (p ≤ 0) = true := decide_eq_true (by omega)
                  have dq2 : decide (q ≤ 0) = true := decide_eq_true (by omega)
                  have fp2 : p ≤ 0 := by omega
                  have fq2 : q ≤ 0 := by omega
                  have dl : decide (a.prio < b.prio) = true := decide_eq_true (by omega)
                  go_wp2_with fail
                  refine (ahead_lit HAB.out HGG.out HSM.out.1 HEA.out HEB.out).mono ?_; rintro e wz ⟨rfl, hb⟩
                  have HQ := Lib.hid (HQ2.out.below hb)
                  clear hb ca cb ca2 cb2 cs2 HQ2 HSM HGG HAB HEA HEB d1 d2
                  have ca := HQ.out.pa.cell
                  have cb := HQ.out.pb.cell
                  go_wp2_with fail
                  go_ret
                  exact ⟨rfl, HQ.out.bel⟩
                · -- case
                  have HGG : Hid (aheadB 0 a b (us2 a b x y) = false) := by cases hgg : aheadB 0 a b (us2 a b x y) with | false => rfl | true => (have := HG.out.1 hgg; omega)
                  clear HG
                  have dp : decide (0 < p) = false := decide_eq_false (by omega)
                  have dq : decide (0 < q) = false := decide_eq_false (by omega)
                  have dp2 : decide (p ≤ 0) = true := decide_eq_true (by omega)
                  have dq2 : decide (q ≤ 0) = true := decide_eq_true (by omega)
                  have fp2 : p ≤ 0 := by omega
                  have fq2 : q ≤ 0 := by omega
                  have dl : decide (a.prio < b.prio) = false := decide_eq_false (by omega)
                  go_wp2_with fail
                  refine (ahead_lit HAB.out HGG.out HSM.out.1 HEA.out HEB.out).mono ?_; rintro e wz ⟨rfl, hb⟩
                  have HQ := Lib.hid (HQ2.out.below hb)
                  clear hb ca cb ca2 cb2 cs2 HQ2 HSM HGG HAB HEA HEB d1 d2
                  have ca := HQ.out.pa.cell
                  have cb := HQ.out.pb.cell
                  go_wp2_with fail
                  go_ret
                  exact ⟨rfl, HQ.out.bel⟩
end Go.Proofs.Ytlnpmdchhmbblaa
