/- bilgelaw20.RankMore: a pod that goes ahead of another still does, if it uses more. -/
import Derived.Test.YtlnpmdchhmbblaaRankTwo
import Derived.Test.YtlnpmdchhmbblaaRankMorePlain
import Derived.Test.YtlnpmdchhmbblaaRankLaw
namespace Go.Proofs.Ytlnpmdchhmbblaa
open Go.RowKit
structure PQ4 (a b : Pd) (u v : U3) (w W : World) : Prop where
  pa : Blk W (w.heap.size) 24 a.cells
  pb : Blk W (w.heap.size + 1) 24 b.cells
  ua : Blk W (w.heap.size + 1 + 1) 26 (c3 u)
  ub : Blk W (w.heap.size + 1 + 1 + 1) 26 (c3 v)
  bel : Below w.heap.size w W
theorem PQ4.below {a b : Pd} {u v : U3} {w W W' : World} (h : PQ4 a b u v w W) (hb : Below W.heap.size W W') : PQ4 a b u v w W' := ⟨h.pa.belowAll hb, h.pb.belowAll hb, h.ua.belowAll hb, h.ub.belowAll hb, h.bel.trans (hb.mono h.bel.size)⟩
theorem PQ4.alloc {a b : Pd} {u v : U3} {w W : World} (h : PQ4 a b u v w W) (o : Obj) : PQ4 a b u v w (W.alloc o) := ⟨h.pa.alloc o, h.pb.alloc o, h.ua.alloc o, h.ub.alloc o, h.bel.alloc h.bel.size o⟩
theorem PQ4.drew {a b : Pd} {u v : U3} {w W : World} (h : PQ4 a b u v w W) : PQ4 a b u v w W.drew := ⟨h.pa.drew, h.pb.drew, h.ua.drew, h.ub.drew, h.bel.drew⟩
theorem PQ4.new (a b : Pd) (u v : U3) (w : World) : PQ4 a b u v w ((((w.alloc (.cells a.cells 24)).alloc (.cells b.cells 24)).alloc (.cells (c3 u) 26)).alloc (.cells (c3 v) 26)) := by
  have z1 : (w.alloc (.cells a.cells 24)).heap.size = w.heap.size + 1 := by simp
  have z2 : ((w.alloc (.cells a.cells 24)).alloc (.cells b.cells 24)).heap.size = w.heap.size + 1 + 1 := by simp
  have z3 : (((w.alloc (.cells a.cells 24)).alloc (.cells b.cells 24)).alloc (.cells (c3 u) 26)).heap.size = w.heap.size + 1 + 1 + 1 := by simp
  have b0 := Blk.new w 24 a.cells
  have b1 := Blk.new (w.alloc (.cells a.cells 24)) 24 b.cells
  rw [z1] at b1
  have b2 := Blk.new ((w.alloc (.cells a.cells 24)).alloc (.cells b.cells 24)) 26 (c3 u)
  rw [z2] at b2
  have b3 := Blk.new (((w.alloc (.cells a.cells 24)).alloc (.cells b.cells 24)).alloc (.cells (c3 u) 26)) 26 (c3 v)
  rw [z3] at b3
  have bel : Below w.heap.size w ((((w.alloc (.cells a.cells 24)).alloc (.cells b.cells 24)).alloc (.cells (c3 u) 26)).alloc (.cells (c3 v) 26)) := ((((Below.refl w.heap.size w).alloc (Nat.le_refl _) _).alloc (by rw [z1]; omega) _).alloc (by rw [z2]; omega) _).alloc (by rw [z3]; omega) _
  exact ⟨(((b0.alloc _).alloc _).alloc _), ((b1.alloc _).alloc _), (b2.alloc _), b3, bel⟩
theorem PQ4.far {a b : Pd} {u v : U3} {w W : World} (h : PQ4 a b u v w W) {p : Addr} (hp : w.heap.size + 1 + 1 + 1 < p.block) (x : Value) : PQ4 a b u v w (W.setCell p x) := ⟨h.pa.far (by omega) x, h.pb.far (by omega) x, h.ua.far (by omega) x, h.ub.far (by omega) x, h.bel.setCell (by omega) x⟩
theorem PQ4.grown {a b : Pd} {u v : U3} {w W W' : World} (h : PQ4 a b u v w W) {g : Nat} (hg : W.grownBy W' (some g)) (hp : w.heap.size + 1 + 1 + 1 < g) : PQ4 a b u v w W' := ⟨h.pa.grown hg (by intro e; injection e with e; omega), h.pb.grown hg (by intro e; injection e with e; omega), h.ua.grown hg (by intro e; injection e with e; omega), h.ub.grown hg (by intro e; injection e with e; omega), h.bel.grown hg h.bel.size (by intro q hq; cases hq; omega)⟩
theorem PQ4.lt {a b : Pd} {u v : U3} {w W : World} (h : PQ4 a b u v w W) : w.heap.size + 1 + 1 + 1 < W.heap.size := h.ub.lt
theorem rds_blk2 {W : World} {g : Nat} {x y : Us} {cs : Array Value} (h : Blk W g 33 cs) (hc : cs.toList = encU.all [x, y]) : Rds W encU (some ⟨g, 0, none⟩) [x, y] := fun _ => ⟨g, 0, rfl, h.lt, fun j v hj => by
  rw [Nat.zero_add, h.cell, ← Array.getElem?_toList, hc]; exact hj⟩
theorem szSm : (Try.prog.info? 36).map (·.size) = some 5 := by kernel_rfl
theorem aheadM {k : Int} (hk : k = 0 ∨ k = 1 ∨ k = 2) {a b c d : Pd} {X Y x y : Us} {v : Bool} {g : Nat} {cs : Array Value} {W : World} (ht : Two a b X Y [x, y]) (hv : aheadB k c d [x, y] = v) (h : Blk W g 33 cs) (hcs : cs.toList = encU.all [x, y]) (hc : ExOk k c [x, y]) (hd : ExOk k d [x, y]) :
    Calls Try.prog 15 #[.int .i64 k, .agg c.cells, .agg d.cells, .agg #[.int .i64 0, .int .i64 0, .int .i64 0, .int .i64 0, .slice (some ⟨g, 0, none⟩) 2 2]] W fun e w' => e = .returned (.bool v) ∧ Below W.heap.size W w' := ahead_tw hk ht hv (rds_blk2 h hcs) hc hd
theorem exokT {k : Int} {a b : Pd} {X Y : Us} {L : List Us} (ht : Two a b X Y L) (ha : a.Wf ∧ a.right = true) (hb : b.Wf ∧ b.right = true) (hX : X.Sm) (hY : Y.Sm) : ExOk k a L ∧ ExOk k b L := ⟨exok_of ha.1 ha.2 (by rw [ht.ua]; exact hX), exok_of hb.1 hb.2 (by rw [ht.ub]; exact hY)⟩
set_option maxRecDepth 100000 in
set_option maxHeartbeats 16000000 in
theorem rankMore_any (n : UInt8) (a b : Pd) (u v : U3) (m : Nat) (ha : a.Wf) (hb : b.Wf) (hu : u.Wf) (hv : v.Wf) (hm : m < 4294967296) (w : World) :
    Calls Try.prog 3 #[.int .u8 n.toNat, .agg a.cells, .agg b.cells, .agg (c3 u), .agg (c3 v), .int .u32 m] w fun e w' => e = .returned (.bool true) ∧ Below w.heap.size w w' := by
  have HQ := Lib.hid (PQ4.new a b u v w)
  have HA := Lib.hid ha
  have HB := Lib.hid hb
  have HU := Lib.hid (And.intro hu hv)
  clear ha hb hu hv
  go_enter Try.func3, Try.ntmps3
  go_wp2_with fail
  refine (awake20_any _).mono ?_; rintro e w1 ⟨rfl, hb⟩
  have HQ := Lib.hid (HQ.out.below hb)
  clear hb
  have cpa := HQ.out.pa.cell
  have cpb := HQ.out.pb.cell
  cases hf : fewB [a, b]
  · go_wp2_with fail
    refine (few2_any hf _).mono ?_; rintro e wv ⟨rfl, hb⟩
    have HQ := Lib.hid ((HQ.out.alloc _).below hb)
    clear hb cpa cpb
    clear hf
    go_wp2_with fail
    refine (awake20_any _).mono ?_; rintro e w9 ⟨rfl, hb⟩
    have HQ := Lib.hid (HQ.out.below hb)
    clear hb
    go_wp2_with fail
    go_ret
    exact ⟨rfl, HQ.out.bel⟩
  · go_wp2_with fail
    refine (few2_any hf _).mono ?_; rintro e wv ⟨rfl, hb⟩
    have HQ := Lib.hid ((HQ.out.alloc _).below hb)
    clear hb cpa cpb
    have Hhf := Lib.hid hf
    clear hf
    have cpa := HQ.out.pa.cell
    cases hra : a.right
    · go_wp2_with fail
      refine (rightV_any hra _ HA.out).mono ?_; rintro e wv ⟨rfl, hb⟩
      have HQ := Lib.hid (HQ.out.below hb)
      clear hb cpa
      clear hra
      go_wp2_with fail
      refine (awake20_any _).mono ?_; rintro e w9 ⟨rfl, hb⟩
      have HQ := Lib.hid (HQ.out.below hb)
      clear hb
      go_wp2_with fail
      go_ret
      exact ⟨rfl, HQ.out.bel⟩
    · go_wp2_with fail
      refine (rightV_any hra _ HA.out).mono ?_; rintro e wv ⟨rfl, hb⟩
      have HQ := Lib.hid (HQ.out.below hb)
      clear hb cpa
      have Hhra := Lib.hid hra
      clear hra
      have cpb := HQ.out.pb.cell
      cases hrb : b.right
      · go_wp2_with fail
        refine (rightV_any hrb _ HB.out).mono ?_; rintro e wv ⟨rfl, hb⟩
        have HQ := Lib.hid (HQ.out.below hb)
        clear hb cpb
        clear hrb
        go_wp2_with fail
        refine (awake20_any _).mono ?_; rintro e w9 ⟨rfl, hb⟩
        have HQ := Lib.hid (HQ.out.below hb)
        clear hb
        go_wp2_with fail
        go_ret
        exact ⟨rfl, HQ.out.bel⟩
      · go_wp2_with fail
        refine (rightV_any hrb _ HB.out).mono ?_; rintro e wv ⟨rfl, hb⟩
        have HQ := Lib.hid (HQ.out.below hb)
        clear hb cpb
        have Hhrb := Lib.hid hrb
        clear hrb
        have HAR : Hid (a.Wf ∧ a.right = true) := ⟨HA.out, Hhra.out⟩
        have HBR : Hid (b.Wf ∧ b.right = true) := ⟨HB.out, Hhrb.out⟩
        clear HA HB Hhra Hhrb Hhf
        have cpa := HQ.out.pa.cell
        have cpb := HQ.out.pb.cell
        cases hab : (a.id.toList == b.id.toList)
        rotate_left
        · go_wp2_with fail
          refine (awake20_any _).mono ?_; rintro e w9 ⟨rfl, hb⟩
          have HQ := Lib.hid (HQ.out.below hb)
          clear hb
          go_wp2_with fail
          go_ret
          exact ⟨rfl, HQ.out.bel⟩
        have HNE : Hid (a.id ≠ b.id) := toList_ne hab
        have hwu0 : IntKind.i64.wrap (u.x0 : Int) = (u.x0 : Int) := by rw [IntKind.wrap_i64]; have := HU.out.1.h0; omega
        have hwv0 : IntKind.i64.wrap (v.x0 : Int) = (v.x0 : Int) := by rw [IntKind.wrap_i64]; have := HU.out.2.h0; omega
        have hwu1 : IntKind.i64.wrap (u.x1 : Int) = (u.x1 : Int) := by rw [IntKind.wrap_i64]; have := HU.out.1.h1; omega
        have hwv1 : IntKind.i64.wrap (v.x1 : Int) = (v.x1 : Int) := by rw [IntKind.wrap_i64]; have := HU.out.2.h1; omega
        have hwu2 : IntKind.i64.wrap (u.x2 : Int) = (u.x2 : Int) := by rw [IntKind.wrap_i64]; have := HU.out.1.h2; omega
        have hwv2 : IntKind.i64.wrap (v.x2 : Int) = (v.x2 : Int) := by rw [IntKind.wrap_i64]; have := HU.out.2.h2; omega
        have hwm : IntKind.i64.wrap (m : Int) = (m : Int) := by rw [IntKind.wrap_i64]; omega
        have HSX : Hid (⟨a.id, (u.x0 : Int), (u.x1 : Int), (u.x2 : Int)⟩ : Us).Sm := ⟨by simp only; omega, by simp only; omega, by simp only; omega, by have := HU.out.1.h0; simp only; omega, by have := HU.out.1.h1; simp only; omega, by have := HU.out.1.h2; simp only; omega⟩
        have HSY : Hid (⟨b.id, (v.x0 : Int), (v.x1 : Int), (v.x2 : Int)⟩ : Us).Sm := ⟨by simp only; omega, by simp only; omega, by simp only; omega, by have := HU.out.2.h0; simp only; omega, by have := HU.out.2.h1; simp only; omega, by have := HU.out.2.h2; simp only; omega⟩
        have cua := HQ.out.ua.cell
        have W1 := Lib.hid (HQ.out.alloc (.cells #[.string a.id, .int .i64 (u.x0 : Int), .int .i64 (u.x1 : Int), .int .i64 (u.x2 : Int)] 33))
        have cpb1 := W1.out.pb.cell
        have cub1 := W1.out.ub.cell
        have z1 : (wv.alloc (.cells #[.string a.id, .int .i64 (u.x0 : Int), .int .i64 (u.x1 : Int), .int .i64 (u.x2 : Int)] 33)).heap.size = wv.heap.size + 1 := by simp
        have z2 : ((wv.alloc (.cells #[.string a.id, .int .i64 (u.x0 : Int), .int .i64 (u.x1 : Int), .int .i64 (u.x2 : Int)] 33)).alloc (.cells #[.string b.id, .int .i64 (v.x0 : Int), .int .i64 (v.x1 : Int), .int .i64 (v.x2 : Int)] 33)).heap.size = wv.heap.size + 1 + 1 := by simp
        have W2 := Lib.hid (W1.out.alloc (.cells #[.string b.id, .int .i64 (v.x0 : Int), .int .i64 (v.x1 : Int), .int .i64 (v.x2 : Int)] 33))
        have bx2 := (Blk.new wv 33 #[.string a.id, .int .i64 (u.x0 : Int), .int .i64 (u.x1 : Int), .int .i64 (u.x2 : Int)]).alloc (.cells #[.string b.id, .int .i64 (v.x0 : Int), .int .i64 (v.x1 : Int), .int .i64 (v.x2 : Int)] 33)
        have by2 := Blk.new (wv.alloc (.cells #[.string a.id, .int .i64 (u.x0 : Int), .int .i64 (u.x1 : Int), .int .i64 (u.x2 : Int)] 33)) 33 #[.string b.id, .int .i64 (v.x0 : Int), .int .i64 (v.x1 : Int), .int .i64 (v.x2 : Int)]
        rw [z1] at by2
        have cx2 := bx2.cell
        have cy2 := by2.cell
        have BX2 := Lib.hid bx2
        have BY2 := Lib.hid by2
        have HLT := Lib.hid HQ.out.lt
        clear bx2 by2
        cases hba : blt b.id a.id
        · have HBL : Hid (blt a.id b.id = true) := by
            show blt a.id b.id = true
            cases h : blt a.id b.id
            · exact absurd (blt_total h hba) HNE.out
            · rfl
          have hl2 : Op.bytesLess b.id.toList a.id.toList = false := hba
          clear hba
          rcases signal_cases n with hk | hk | hk
          · have HSG := Lib.hid (signalV hk wv)
            clear hk
            go_wp2_with fail
            refine HSG.out.mono ?_; rintro e wk ⟨rfl, rfl⟩
            have z3 : (((wv.alloc (.cells #[.string a.id, .int .i64 (u.x0 : Int), .int .i64 (u.x1 : Int), .int .i64 (u.x2 : Int)] 33)).alloc (.cells #[.string b.id, .int .i64 (v.x0 : Int), .int .i64 (v.x1 : Int), .int .i64 (v.x2 : Int)] 33)).alloc (.cells #[.string a.id, .int .i64 (u.x0 : Int), .int .i64 (u.x1 : Int), .int .i64 (u.x2 : Int), .string b.id, .int .i64 (v.x0 : Int), .int .i64 (v.x1 : Int), .int .i64 (v.x2 : Int)] 33)).heap.size = wv.heap.size + 1 + 1 + 1 := by simp
            have W4 := Lib.hid ((W2.out.alloc (.cells #[.string a.id, .int .i64 (u.x0 : Int), .int .i64 (u.x1 : Int), .int .i64 (u.x2 : Int), .string b.id, .int .i64 (v.x0 : Int), .int .i64 (v.x1 : Int), .int .i64 (v.x2 : Int)] 33)).alloc (.cells #[.int .i64 0, .int .i64 0, .int .i64 0, .int .i64 0, .slice (some ⟨wv.heap.size + 1 + 1, 0, none⟩) 2 2] 36))
            have row4 := (Blk.new ((wv.alloc (.cells #[.string a.id, .int .i64 (u.x0 : Int), .int .i64 (u.x1 : Int), .int .i64 (u.x2 : Int)] 33)).alloc (.cells #[.string b.id, .int .i64 (v.x0 : Int), .int .i64 (v.x1 : Int), .int .i64 (v.x2 : Int)] 33)) 33 #[.string a.id, .int .i64 (u.x0 : Int), .int .i64 (u.x1 : Int), .int .i64 (u.x2 : Int), .string b.id, .int .i64 (v.x0 : Int), .int .i64 (v.x1 : Int), .int .i64 (v.x2 : Int)]).alloc (.cells #[.int .i64 0, .int .i64 0, .int .i64 0, .int .i64 0, .slice (some ⟨wv.heap.size + 1 + 1, 0, none⟩) 2 2] 36)
            rw [z2] at row4
            have sm4 := Blk.new (((wv.alloc (.cells #[.string a.id, .int .i64 (u.x0 : Int), .int .i64 (u.x1 : Int), .int .i64 (u.x2 : Int)] 33)).alloc (.cells #[.string b.id, .int .i64 (v.x0 : Int), .int .i64 (v.x1 : Int), .int .i64 (v.x2 : Int)] 33)).alloc (.cells #[.string a.id, .int .i64 (u.x0 : Int), .int .i64 (u.x1 : Int), .int .i64 (u.x2 : Int), .string b.id, .int .i64 (v.x0 : Int), .int .i64 (v.x1 : Int), .int .i64 (v.x2 : Int)] 33)) 36 #[.int .i64 0, .int .i64 0, .int .i64 0, .int .i64 0, .slice (some ⟨wv.heap.size + 1 + 1, 0, none⟩) 2 2]
            rw [z3] at sm4
            have bx4 := (BX2.out.alloc (.cells #[.string a.id, .int .i64 (u.x0 : Int), .int .i64 (u.x1 : Int), .int .i64 (u.x2 : Int), .string b.id, .int .i64 (v.x0 : Int), .int .i64 (v.x1 : Int), .int .i64 (v.x2 : Int)] 33)).alloc (.cells #[.int .i64 0, .int .i64 0, .int .i64 0, .int .i64 0, .slice (some ⟨wv.heap.size + 1 + 1, 0, none⟩) 2 2] 36)
            have by4 := (BY2.out.alloc (.cells #[.string a.id, .int .i64 (u.x0 : Int), .int .i64 (u.x1 : Int), .int .i64 (u.x2 : Int), .string b.id, .int .i64 (v.x0 : Int), .int .i64 (v.x1 : Int), .int .i64 (v.x2 : Int)] 33)).alloc (.cells #[.int .i64 0, .int .i64 0, .int .i64 0, .int .i64 0, .slice (some ⟨wv.heap.size + 1 + 1, 0, none⟩) 2 2] 36)
            have cpa4 := W4.out.pa.cell
            have cpb4 := W4.out.pb.cell
            have csm4 := sm4.cell
            have ROW := Lib.hid row4
            have BX := Lib.hid bx4
            have BY := Lib.hid by4
            have SM := Lib.hid sm4
            clear row4 sm4
            clear bx4 by4
            go_wp2_with fail
            have HQ := W4
            have HTW : Hid (Two a b (⟨a.id, (u.x0 : Int), (u.x1 : Int), (u.x2 : Int)⟩ : Us) (⟨b.id, (v.x0 : Int), (v.x1 : Int), (v.x2 : Int)⟩ : Us) [(⟨a.id, (u.x0 : Int), (u.x1 : Int), (u.x2 : Int)⟩ : Us), (⟨b.id, (v.x0 : Int), (v.x1 : Int), (v.x2 : Int)⟩ : Us)]) := Two.ab HBL.out rfl rfl
            have HEX := Lib.hid (exokT (k := 0) HTW.out HAR.out HBR.out HSX.out HSY.out)
            cases hv1 : aheadB 0 a b [(⟨a.id, (u.x0 : Int), (u.x1 : Int), (u.x2 : Int)⟩ : Us), (⟨b.id, (v.x0 : Int), (v.x1 : Int), (v.x2 : Int)⟩ : Us)]
            · have Hv1 := Lib.hid hv1
              have Hv2 := Lib.hid (ahead_total HNE.out hv1)
              clear hv1
              refine (aheadM (k := 0) (by decide) HTW.out Hv1.out ROW.out rfl HEX.out.1 HEX.out.2).mono ?_; rintro e w7 ⟨rfl, hb⟩
              have HQ := Lib.hid (HQ.out.below hb)
              have ROW := Lib.hid (ROW.out.belowAll hb)
              have SM := Lib.hid (SM.out.belowAll hb)
              have cpa7 := HQ.out.pa.cell
              have cpb7 := HQ.out.pb.cell
              have csm7 := SM.out.cell
              clear hb
              go_wp2_with fail
              refine (aheadM (k := 0) (by decide) HTW.out Hv2.out ROW.out rfl HEX.out.2 HEX.out.1).mono ?_; rintro e w8 ⟨rfl, hb⟩
              have HQ := Lib.hid (HQ.out.below hb)
              clear hb
              go_wp2_with fail
              go_ret
              exact ⟨rfl, HQ.out.bel⟩
            · have Hv1 := Lib.hid hv1
              clear hv1
              refine (aheadM (k := 0) (by decide) HTW.out Hv1.out ROW.out rfl HEX.out.1 HEX.out.2).mono ?_; rintro e w7 ⟨rfl, hb⟩
              have HQ := Lib.hid (HQ.out.below hb)
              have BX := Lib.hid (BX.out.belowAll hb)
              have BY := Lib.hid (BY.out.belowAll hb)
              clear hb
              have hws : IntKind.i64.wrap ((u.x0 : Int) + (m : Int)) = (u.x0 : Int) + (m : Int) := by rw [IntKind.wrap_i64]; have := HU.out.1.h0; omega
              have cx7 := BX.out.cell
              have fx7 := BX.out.frozen 1
              have z8 : (w7.setCell ⟨wv.heap.size, 1, none⟩ (.int .i64 ((u.x0 : Int) + (m : Int)))).heap.size = w7.heap.size := by simp [World.setCell]
              have z9 : ((w7.setCell ⟨wv.heap.size, 1, none⟩ (.int .i64 ((u.x0 : Int) + (m : Int)))).alloc (.cells #[.string a.id, .int .i64 ((u.x0 : Int) + (m : Int)), .int .i64 (u.x1 : Int), .int .i64 (u.x2 : Int), .string b.id, .int .i64 (v.x0 : Int), .int .i64 (v.x1 : Int), .int .i64 (v.x2 : Int)] 33)).heap.size = w7.heap.size + 1 := by simp [World.setCell]
              have bx8 : Blk (w7.setCell ⟨wv.heap.size, 1, none⟩ (.int .i64 ((u.x0 : Int) + (m : Int)))) (wv.heap.size) 33 #[.string a.id, .int .i64 ((u.x0 : Int) + (m : Int)), .int .i64 (u.x1 : Int), .int .i64 (u.x2 : Int)] := by
                have h := BX.out.set_ 1 (.int .i64 ((u.x0 : Int) + (m : Int)))
                simpa using h
              have BY8 := Lib.hid (BY.out.far (p := ⟨wv.heap.size, 1, none⟩) (by show wv.heap.size + 1 ≠ wv.heap.size; omega) (.int .i64 ((u.x0 : Int) + (m : Int))))
              have W8 := Lib.hid (HQ.out.far (p := ⟨wv.heap.size, 1, none⟩) (by have := HLT.out; show _ < wv.heap.size; omega) (.int .i64 ((u.x0 : Int) + (m : Int))))
              have cx8 := bx8.cell
              have cy8 := BY8.out.cell
              have BX8 := Lib.hid bx8
              have W10 := Lib.hid ((W8.out.alloc (.cells #[.string a.id, .int .i64 ((u.x0 : Int) + (m : Int)), .int .i64 (u.x1 : Int), .int .i64 (u.x2 : Int), .string b.id, .int .i64 (v.x0 : Int), .int .i64 (v.x1 : Int), .int .i64 (v.x2 : Int)] 33)).alloc (.cells #[.int .i64 0, .int .i64 0, .int .i64 0, .int .i64 0, .slice (some ⟨w7.heap.size, 0, none⟩) 2 2] 36))
              have row10 := (Blk.new (w7.setCell ⟨wv.heap.size, 1, none⟩ (.int .i64 ((u.x0 : Int) + (m : Int)))) 33 #[.string a.id, .int .i64 ((u.x0 : Int) + (m : Int)), .int .i64 (u.x1 : Int), .int .i64 (u.x2 : Int), .string b.id, .int .i64 (v.x0 : Int), .int .i64 (v.x1 : Int), .int .i64 (v.x2 : Int)]).alloc (.cells #[.int .i64 0, .int .i64 0, .int .i64 0, .int .i64 0, .slice (some ⟨w7.heap.size, 0, none⟩) 2 2] 36)
              rw [z8] at row10
              have sm10 := Blk.new ((w7.setCell ⟨wv.heap.size, 1, none⟩ (.int .i64 ((u.x0 : Int) + (m : Int)))).alloc (.cells #[.string a.id, .int .i64 ((u.x0 : Int) + (m : Int)), .int .i64 (u.x1 : Int), .int .i64 (u.x2 : Int), .string b.id, .int .i64 (v.x0 : Int), .int .i64 (v.x1 : Int), .int .i64 (v.x2 : Int)] 33)) 36 #[.int .i64 0, .int .i64 0, .int .i64 0, .int .i64 0, .slice (some ⟨w7.heap.size, 0, none⟩) 2 2]
              rw [z9] at sm10
              have bx10 := (BX8.out.alloc (.cells #[.string a.id, .int .i64 ((u.x0 : Int) + (m : Int)), .int .i64 (u.x1 : Int), .int .i64 (u.x2 : Int), .string b.id, .int .i64 (v.x0 : Int), .int .i64 (v.x1 : Int), .int .i64 (v.x2 : Int)] 33)).alloc (.cells #[.int .i64 0, .int .i64 0, .int .i64 0, .int .i64 0, .slice (some ⟨w7.heap.size, 0, none⟩) 2 2] 36)
              have by10 := (BY8.out.alloc (.cells #[.string a.id, .int .i64 ((u.x0 : Int) + (m : Int)), .int .i64 (u.x1 : Int), .int .i64 (u.x2 : Int), .string b.id, .int .i64 (v.x0 : Int), .int .i64 (v.x1 : Int), .int .i64 (v.x2 : Int)] 33)).alloc (.cells #[.int .i64 0, .int .i64 0, .int .i64 0, .int .i64 0, .slice (some ⟨w7.heap.size, 0, none⟩) 2 2] 36)
              have cpa10 := W10.out.pa.cell
              have cpb10 := W10.out.pb.cell
              have csm10 := sm10.cell
              have ROW10 := Lib.hid row10
              have SM10 := Lib.hid sm10
              have BX10 := Lib.hid bx10
              have BY10 := Lib.hid by10
              have HLT7 := Lib.hid HQ.out.lt
              have HNlt : Hid (wv.heap.size + 1 < w7.heap.size) := BY.out.lt
              have HSXn : Hid (⟨a.id, ((u.x0 : Int) + (m : Int)), (u.x1 : Int), (u.x2 : Int)⟩ : Us).Sm := ⟨by simp only; omega, by simp only; omega, by simp only; omega, by have := HU.out.1.h0; simp only; omega, by have := HU.out.1.h1; simp only; omega, by have := HU.out.1.h2; simp only; omega⟩
              clear bx8 row10 sm10
              clear bx10 by10
              go_wp2_with fail
              have HQ := W10
              have ROW := ROW10
              have HTN : Hid (Two a b (⟨a.id, ((u.x0 : Int) + (m : Int)), (u.x1 : Int), (u.x2 : Int)⟩ : Us) (⟨b.id, (v.x0 : Int), (v.x1 : Int), (v.x2 : Int)⟩ : Us) [(⟨a.id, ((u.x0 : Int) + (m : Int)), (u.x1 : Int), (u.x2 : Int)⟩ : Us), (⟨b.id, (v.x0 : Int), (v.x1 : Int), (v.x2 : Int)⟩ : Us)]) := Two.ab HBL.out rfl rfl
              have HEN := Lib.hid (exokT (k := 0) HTN.out HAR.out HBR.out HSXn.out HSY.out)
              have Hv3 : Hid (aheadB 0 a b [(⟨a.id, ((u.x0 : Int) + (m : Int)), (u.x1 : Int), (u.x2 : Int)⟩ : Us), (⟨b.id, (v.x0 : Int), (v.x1 : Int), (v.x2 : Int)⟩ : Us)] = true) := ahead_more (l := [(⟨a.id, (u.x0 : Int), (u.x1 : Int), (u.x2 : Int)⟩ : Us), (⟨b.id, (v.x0 : Int), (v.x1 : Int), (v.x2 : Int)⟩ : Us)]) (by rw [HTW.out.exA, HTN.out.exA]; simp only [amt]; simp; omega) (by rw [HTW.out.exB, HTN.out.exB]) Hv1.out
              refine (aheadM (k := 0) (by decide) HTN.out Hv3.out ROW.out rfl HEN.out.1 HEN.out.2).mono ?_; rintro e w13 ⟨rfl, hb⟩
              have HQ := Lib.hid (HQ.out.below hb)
              clear hb
              go_wp2_with fail
              go_ret
              exact ⟨rfl, HQ.out.bel⟩
          · have HSG := Lib.hid (signalV hk wv)
            clear hk
            go_wp2_with fail
            refine HSG.out.mono ?_; rintro e wk ⟨rfl, rfl⟩
            have z3 : (((wv.alloc (.cells #[.string a.id, .int .i64 (u.x0 : Int), .int .i64 (u.x1 : Int), .int .i64 (u.x2 : Int)] 33)).alloc (.cells #[.string b.id, .int .i64 (v.x0 : Int), .int .i64 (v.x1 : Int), .int .i64 (v.x2 : Int)] 33)).alloc (.cells #[.string a.id, .int .i64 (u.x0 : Int), .int .i64 (u.x1 : Int), .int .i64 (u.x2 : Int), .string b.id, .int .i64 (v.x0 : Int), .int .i64 (v.x1 : Int), .int .i64 (v.x2 : Int)] 33)).heap.size = wv.heap.size + 1 + 1 + 1 := by simp
            have W4 := Lib.hid ((W2.out.alloc (.cells #[.string a.id, .int .i64 (u.x0 : Int), .int .i64 (u.x1 : Int), .int .i64 (u.x2 : Int), .string b.id, .int .i64 (v.x0 : Int), .int .i64 (v.x1 : Int), .int .i64 (v.x2 : Int)] 33)).alloc (.cells #[.int .i64 0, .int .i64 0, .int .i64 0, .int .i64 0, .slice (some ⟨wv.heap.size + 1 + 1, 0, none⟩) 2 2] 36))
            have row4 := (Blk.new ((wv.alloc (.cells #[.string a.id, .int .i64 (u.x0 : Int), .int .i64 (u.x1 : Int), .int .i64 (u.x2 : Int)] 33)).alloc (.cells #[.string b.id, .int .i64 (v.x0 : Int), .int .i64 (v.x1 : Int), .int .i64 (v.x2 : Int)] 33)) 33 #[.string a.id, .int .i64 (u.x0 : Int), .int .i64 (u.x1 : Int), .int .i64 (u.x2 : Int), .string b.id, .int .i64 (v.x0 : Int), .int .i64 (v.x1 : Int), .int .i64 (v.x2 : Int)]).alloc (.cells #[.int .i64 0, .int .i64 0, .int .i64 0, .int .i64 0, .slice (some ⟨wv.heap.size + 1 + 1, 0, none⟩) 2 2] 36)
            rw [z2] at row4
            have sm4 := Blk.new (((wv.alloc (.cells #[.string a.id, .int .i64 (u.x0 : Int), .int .i64 (u.x1 : Int), .int .i64 (u.x2 : Int)] 33)).alloc (.cells #[.string b.id, .int .i64 (v.x0 : Int), .int .i64 (v.x1 : Int), .int .i64 (v.x2 : Int)] 33)).alloc (.cells #[.string a.id, .int .i64 (u.x0 : Int), .int .i64 (u.x1 : Int), .int .i64 (u.x2 : Int), .string b.id, .int .i64 (v.x0 : Int), .int .i64 (v.x1 : Int), .int .i64 (v.x2 : Int)] 33)) 36 #[.int .i64 0, .int .i64 0, .int .i64 0, .int .i64 0, .slice (some ⟨wv.heap.size + 1 + 1, 0, none⟩) 2 2]
            rw [z3] at sm4
            have bx4 := (BX2.out.alloc (.cells #[.string a.id, .int .i64 (u.x0 : Int), .int .i64 (u.x1 : Int), .int .i64 (u.x2 : Int), .string b.id, .int .i64 (v.x0 : Int), .int .i64 (v.x1 : Int), .int .i64 (v.x2 : Int)] 33)).alloc (.cells #[.int .i64 0, .int .i64 0, .int .i64 0, .int .i64 0, .slice (some ⟨wv.heap.size + 1 + 1, 0, none⟩) 2 2] 36)
            have by4 := (BY2.out.alloc (.cells #[.string a.id, .int .i64 (u.x0 : Int), .int .i64 (u.x1 : Int), .int .i64 (u.x2 : Int), .string b.id, .int .i64 (v.x0 : Int), .int .i64 (v.x1 : Int), .int .i64 (v.x2 : Int)] 33)).alloc (.cells #[.int .i64 0, .int .i64 0, .int .i64 0, .int .i64 0, .slice (some ⟨wv.heap.size + 1 + 1, 0, none⟩) 2 2] 36)
            have cpa4 := W4.out.pa.cell
            have cpb4 := W4.out.pb.cell
            have csm4 := sm4.cell
            have ROW := Lib.hid row4
            have BX := Lib.hid bx4
            have BY := Lib.hid by4
            have SM := Lib.hid sm4
            clear row4 sm4
            clear bx4 by4
            go_wp2_with fail
            have HQ := W4
            have HTW : Hid (Two a b (⟨a.id, (u.x0 : Int), (u.x1 : Int), (u.x2 : Int)⟩ : Us) (⟨b.id, (v.x0 : Int), (v.x1 : Int), (v.x2 : Int)⟩ : Us) [(⟨a.id, (u.x0 : Int), (u.x1 : Int), (u.x2 : Int)⟩ : Us), (⟨b.id, (v.x0 : Int), (v.x1 : Int), (v.x2 : Int)⟩ : Us)]) := Two.ab HBL.out rfl rfl
            have HEX := Lib.hid (exokT (k := 1) HTW.out HAR.out HBR.out HSX.out HSY.out)
            cases hv1 : aheadB 1 a b [(⟨a.id, (u.x0 : Int), (u.x1 : Int), (u.x2 : Int)⟩ : Us), (⟨b.id, (v.x0 : Int), (v.x1 : Int), (v.x2 : Int)⟩ : Us)]
            · have Hv1 := Lib.hid hv1
              have Hv2 := Lib.hid (ahead_total HNE.out hv1)
              clear hv1
              refine (aheadM (k := 1) (by decide) HTW.out Hv1.out ROW.out rfl HEX.out.1 HEX.out.2).mono ?_; rintro e w7 ⟨rfl, hb⟩
              have HQ := Lib.hid (HQ.out.below hb)
              have ROW := Lib.hid (ROW.out.belowAll hb)
              have SM := Lib.hid (SM.out.belowAll hb)
              have cpa7 := HQ.out.pa.cell
              have cpb7 := HQ.out.pb.cell
              have csm7 := SM.out.cell
              clear hb
              go_wp2_with fail
              refine (aheadM (k := 1) (by decide) HTW.out Hv2.out ROW.out rfl HEX.out.2 HEX.out.1).mono ?_; rintro e w8 ⟨rfl, hb⟩
              have HQ := Lib.hid (HQ.out.below hb)
              clear hb
              go_wp2_with fail
              go_ret
              exact ⟨rfl, HQ.out.bel⟩
            · have Hv1 := Lib.hid hv1
              clear hv1
              refine (aheadM (k := 1) (by decide) HTW.out Hv1.out ROW.out rfl HEX.out.1 HEX.out.2).mono ?_; rintro e w7 ⟨rfl, hb⟩
              have HQ := Lib.hid (HQ.out.below hb)
              have BX := Lib.hid (BX.out.belowAll hb)
              have BY := Lib.hid (BY.out.belowAll hb)
              clear hb
              have hws : IntKind.i64.wrap ((u.x1 : Int) + (m : Int)) = (u.x1 : Int) + (m : Int) := by rw [IntKind.wrap_i64]; have := HU.out.1.h1; omega
              have cx7 := BX.out.cell
              have fx7 := BX.out.frozen 2
              have z8 : (w7.setCell ⟨wv.heap.size, 2, none⟩ (.int .i64 ((u.x1 : Int) + (m : Int)))).heap.size = w7.heap.size := by simp [World.setCell]
              have z9 : ((w7.setCell ⟨wv.heap.size, 2, none⟩ (.int .i64 ((u.x1 : Int) + (m : Int)))).alloc (.cells #[.string a.id, .int .i64 (u.x0 : Int), .int .i64 ((u.x1 : Int) + (m : Int)), .int .i64 (u.x2 : Int), .string b.id, .int .i64 (v.x0 : Int), .int .i64 (v.x1 : Int), .int .i64 (v.x2 : Int)] 33)).heap.size = w7.heap.size + 1 := by simp [World.setCell]
              have bx8 : Blk (w7.setCell ⟨wv.heap.size, 2, none⟩ (.int .i64 ((u.x1 : Int) + (m : Int)))) (wv.heap.size) 33 #[.string a.id, .int .i64 (u.x0 : Int), .int .i64 ((u.x1 : Int) + (m : Int)), .int .i64 (u.x2 : Int)] := by
                have h := BX.out.set_ 2 (.int .i64 ((u.x1 : Int) + (m : Int)))
                simpa using h
              have BY8 := Lib.hid (BY.out.far (p := ⟨wv.heap.size, 2, none⟩) (by show wv.heap.size + 1 ≠ wv.heap.size; omega) (.int .i64 ((u.x1 : Int) + (m : Int))))
              have W8 := Lib.hid (HQ.out.far (p := ⟨wv.heap.size, 2, none⟩) (by have := HLT.out; show _ < wv.heap.size; omega) (.int .i64 ((u.x1 : Int) + (m : Int))))
              have cx8 := bx8.cell
              have cy8 := BY8.out.cell
              have BX8 := Lib.hid bx8
              have W10 := Lib.hid ((W8.out.alloc (.cells #[.string a.id, .int .i64 (u.x0 : Int), .int .i64 ((u.x1 : Int) + (m : Int)), .int .i64 (u.x2 : Int), .string b.id, .int .i64 (v.x0 : Int), .int .i64 (v.x1 : Int), .int .i64 (v.x2 : Int)] 33)).alloc (.cells #[.int .i64 0, .int .i64 0, .int .i64 0, .int .i64 0, .slice (some ⟨w7.heap.size, 0, none⟩) 2 2] 36))
              have row10 := (Blk.new (w7.setCell ⟨wv.heap.size, 2, none⟩ (.int .i64 ((u.x1 : Int) + (m : Int)))) 33 #[.string a.id, .int .i64 (u.x0 : Int), .int .i64 ((u.x1 : Int) + (m : Int)), .int .i64 (u.x2 : Int), .string b.id, .int .i64 (v.x0 : Int), .int .i64 (v.x1 : Int), .int .i64 (v.x2 : Int)]).alloc (.cells #[.int .i64 0, .int .i64 0, .int .i64 0, .int .i64 0, .slice (some ⟨w7.heap.size, 0, none⟩) 2 2] 36)
              rw [z8] at row10
              have sm10 := Blk.new ((w7.setCell ⟨wv.heap.size, 2, none⟩ (.int .i64 ((u.x1 : Int) + (m : Int)))).alloc (.cells #[.string a.id, .int .i64 (u.x0 : Int), .int .i64 ((u.x1 : Int) + (m : Int)), .int .i64 (u.x2 : Int), .string b.id, .int .i64 (v.x0 : Int), .int .i64 (v.x1 : Int), .int .i64 (v.x2 : Int)] 33)) 36 #[.int .i64 0, .int .i64 0, .int .i64 0, .int .i64 0, .slice (some ⟨w7.heap.size, 0, none⟩) 2 2]
              rw [z9] at sm10
              have bx10 := (BX8.out.alloc (.cells #[.string a.id, .int .i64 (u.x0 : Int), .int .i64 ((u.x1 : Int) + (m : Int)), .int .i64 (u.x2 : Int), .string b.id, .int .i64 (v.x0 : Int), .int .i64 (v.x1 : Int), .int .i64 (v.x2 : Int)] 33)).alloc (.cells #[.int .i64 0, .int .i64 0, .int .i64 0, .int .i64 0, .slice (some ⟨w7.heap.size, 0, none⟩) 2 2] 36)
              have by10 := (BY8.out.alloc (.cells #[.string a.id, .int .i64 (u.x0 : Int), .int .i64 ((u.x1 : Int) + (m : Int)), .int .i64 (u.x2 : Int), .string b.id, .int .i64 (v.x0 : Int), .int .i64 (v.x1 : Int), .int .i64 (v.x2 : Int)] 33)).alloc (.cells #[.int .i64 0, .int .i64 0, .int .i64 0, .int .i64 0, .slice (some ⟨w7.heap.size, 0, none⟩) 2 2] 36)
              have cpa10 := W10.out.pa.cell
              have cpb10 := W10.out.pb.cell
              have csm10 := sm10.cell
              have ROW10 := Lib.hid row10
              have SM10 := Lib.hid sm10
              have BX10 := Lib.hid bx10
              have BY10 := Lib.hid by10
              have HLT7 := Lib.hid HQ.out.lt
              have HNlt : Hid (wv.heap.size + 1 < w7.heap.size) := BY.out.lt
              have HSXn : Hid (⟨a.id, (u.x0 : Int), ((u.x1 : Int) + (m : Int)), (u.x2 : Int)⟩ : Us).Sm := ⟨by simp only; omega, by simp only; omega, by simp only; omega, by have := HU.out.1.h0; simp only; omega, by have := HU.out.1.h1; simp only; omega, by have := HU.out.1.h2; simp only; omega⟩
              clear bx8 row10 sm10
              clear bx10 by10
              go_wp2_with fail
              have HQ := W10
              have ROW := ROW10
              have HTN : Hid (Two a b (⟨a.id, (u.x0 : Int), ((u.x1 : Int) + (m : Int)), (u.x2 : Int)⟩ : Us) (⟨b.id, (v.x0 : Int), (v.x1 : Int), (v.x2 : Int)⟩ : Us) [(⟨a.id, (u.x0 : Int), ((u.x1 : Int) + (m : Int)), (u.x2 : Int)⟩ : Us), (⟨b.id, (v.x0 : Int), (v.x1 : Int), (v.x2 : Int)⟩ : Us)]) := Two.ab HBL.out rfl rfl
              have HEN := Lib.hid (exokT (k := 1) HTN.out HAR.out HBR.out HSXn.out HSY.out)
              have Hv3 : Hid (aheadB 1 a b [(⟨a.id, (u.x0 : Int), ((u.x1 : Int) + (m : Int)), (u.x2 : Int)⟩ : Us), (⟨b.id, (v.x0 : Int), (v.x1 : Int), (v.x2 : Int)⟩ : Us)] = true) := ahead_more (l := [(⟨a.id, (u.x0 : Int), (u.x1 : Int), (u.x2 : Int)⟩ : Us), (⟨b.id, (v.x0 : Int), (v.x1 : Int), (v.x2 : Int)⟩ : Us)]) (by rw [HTW.out.exA, HTN.out.exA]; simp only [amt]; simp; omega) (by rw [HTW.out.exB, HTN.out.exB]) Hv1.out
              refine (aheadM (k := 1) (by decide) HTN.out Hv3.out ROW.out rfl HEN.out.1 HEN.out.2).mono ?_; rintro e w13 ⟨rfl, hb⟩
              have HQ := Lib.hid (HQ.out.below hb)
              clear hb
              go_wp2_with fail
              go_ret
              exact ⟨rfl, HQ.out.bel⟩
          · have HSG := Lib.hid (signalV hk wv)
            clear hk
            go_wp2_with fail
            refine HSG.out.mono ?_; rintro e wk ⟨rfl, rfl⟩
            have z3 : (((wv.alloc (.cells #[.string a.id, .int .i64 (u.x0 : Int), .int .i64 (u.x1 : Int), .int .i64 (u.x2 : Int)] 33)).alloc (.cells #[.string b.id, .int .i64 (v.x0 : Int), .int .i64 (v.x1 : Int), .int .i64 (v.x2 : Int)] 33)).alloc (.cells #[.string a.id, .int .i64 (u.x0 : Int), .int .i64 (u.x1 : Int), .int .i64 (u.x2 : Int), .string b.id, .int .i64 (v.x0 : Int), .int .i64 (v.x1 : Int), .int .i64 (v.x2 : Int)] 33)).heap.size = wv.heap.size + 1 + 1 + 1 := by simp
            have W4 := Lib.hid ((W2.out.alloc (.cells #[.string a.id, .int .i64 (u.x0 : Int), .int .i64 (u.x1 : Int), .int .i64 (u.x2 : Int), .string b.id, .int .i64 (v.x0 : Int), .int .i64 (v.x1 : Int), .int .i64 (v.x2 : Int)] 33)).alloc (.cells #[.int .i64 0, .int .i64 0, .int .i64 0, .int .i64 0, .slice (some ⟨wv.heap.size + 1 + 1, 0, none⟩) 2 2] 36))
            have row4 := (Blk.new ((wv.alloc (.cells #[.string a.id, .int .i64 (u.x0 : Int), .int .i64 (u.x1 : Int), .int .i64 (u.x2 : Int)] 33)).alloc (.cells #[.string b.id, .int .i64 (v.x0 : Int), .int .i64 (v.x1 : Int), .int .i64 (v.x2 : Int)] 33)) 33 #[.string a.id, .int .i64 (u.x0 : Int), .int .i64 (u.x1 : Int), .int .i64 (u.x2 : Int), .string b.id, .int .i64 (v.x0 : Int), .int .i64 (v.x1 : Int), .int .i64 (v.x2 : Int)]).alloc (.cells #[.int .i64 0, .int .i64 0, .int .i64 0, .int .i64 0, .slice (some ⟨wv.heap.size + 1 + 1, 0, none⟩) 2 2] 36)
            rw [z2] at row4
            have sm4 := Blk.new (((wv.alloc (.cells #[.string a.id, .int .i64 (u.x0 : Int), .int .i64 (u.x1 : Int), .int .i64 (u.x2 : Int)] 33)).alloc (.cells #[.string b.id, .int .i64 (v.x0 : Int), .int .i64 (v.x1 : Int), .int .i64 (v.x2 : Int)] 33)).alloc (.cells #[.string a.id, .int .i64 (u.x0 : Int), .int .i64 (u.x1 : Int), .int .i64 (u.x2 : Int), .string b.id, .int .i64 (v.x0 : Int), .int .i64 (v.x1 : Int), .int .i64 (v.x2 : Int)] 33)) 36 #[.int .i64 0, .int .i64 0, .int .i64 0, .int .i64 0, .slice (some ⟨wv.heap.size + 1 + 1, 0, none⟩) 2 2]
            rw [z3] at sm4
            have bx4 := (BX2.out.alloc (.cells #[.string a.id, .int .i64 (u.x0 : Int), .int .i64 (u.x1 : Int), .int .i64 (u.x2 : Int), .string b.id, .int .i64 (v.x0 : Int), .int .i64 (v.x1 : Int), .int .i64 (v.x2 : Int)] 33)).alloc (.cells #[.int .i64 0, .int .i64 0, .int .i64 0, .int .i64 0, .slice (some ⟨wv.heap.size + 1 + 1, 0, none⟩) 2 2] 36)
            have by4 := (BY2.out.alloc (.cells #[.string a.id, .int .i64 (u.x0 : Int), .int .i64 (u.x1 : Int), .int .i64 (u.x2 : Int), .string b.id, .int .i64 (v.x0 : Int), .int .i64 (v.x1 : Int), .int .i64 (v.x2 : Int)] 33)).alloc (.cells #[.int .i64 0, .int .i64 0, .int .i64 0, .int .i64 0, .slice (some ⟨wv.heap.size + 1 + 1, 0, none⟩) 2 2] 36)
            have cpa4 := W4.out.pa.cell
            have cpb4 := W4.out.pb.cell
            have csm4 := sm4.cell
            have ROW := Lib.hid row4
            have BX := Lib.hid bx4
            have BY := Lib.hid by4
            have SM := Lib.hid sm4
            clear row4 sm4
            clear bx4 by4
            go_wp2_with fail
            have HQ := W4
            have HTW : Hid (Two a b (⟨a.id, (u.x0 : Int), (u.x1 : Int), (u.x2 : Int)⟩ : Us) (⟨b.id, (v.x0 : Int), (v.x1 : Int), (v.x2 : Int)⟩ : Us) [(⟨a.id, (u.x0 : Int), (u.x1 : Int), (u.x2 : Int)⟩ : Us), (⟨b.id, (v.x0 : Int), (v.x1 : Int), (v.x2 : Int)⟩ : Us)]) := Two.ab HBL.out rfl rfl
            have HEX := Lib.hid (exokT (k := 2) HTW.out HAR.out HBR.out HSX.out HSY.out)
            cases hv1 : aheadB 2 a b [(⟨a.id, (u.x0 : Int), (u.x1 : Int), (u.x2 : Int)⟩ : Us), (⟨b.id, (v.x0 : Int), (v.x1 : Int), (v.x2 : Int)⟩ : Us)]
            · have Hv1 := Lib.hid hv1
              have Hv2 := Lib.hid (ahead_total HNE.out hv1)
              clear hv1
              refine (aheadM (k := 2) (by decide) HTW.out Hv1.out ROW.out rfl HEX.out.1 HEX.out.2).mono ?_; rintro e w7 ⟨rfl, hb⟩
              have HQ := Lib.hid (HQ.out.below hb)
              have ROW := Lib.hid (ROW.out.belowAll hb)
              have SM := Lib.hid (SM.out.belowAll hb)
              have cpa7 := HQ.out.pa.cell
              have cpb7 := HQ.out.pb.cell
              have csm7 := SM.out.cell
              clear hb
              go_wp2_with fail
              refine (aheadM (k := 2) (by decide) HTW.out Hv2.out ROW.out rfl HEX.out.2 HEX.out.1).mono ?_; rintro e w8 ⟨rfl, hb⟩
              have HQ := Lib.hid (HQ.out.below hb)
              clear hb
              go_wp2_with fail
              go_ret
              exact ⟨rfl, HQ.out.bel⟩
            · have Hv1 := Lib.hid hv1
              clear hv1
              refine (aheadM (k := 2) (by decide) HTW.out Hv1.out ROW.out rfl HEX.out.1 HEX.out.2).mono ?_; rintro e w7 ⟨rfl, hb⟩
              have HQ := Lib.hid (HQ.out.below hb)
              have BX := Lib.hid (BX.out.belowAll hb)
              have BY := Lib.hid (BY.out.belowAll hb)
              clear hb
              have hws : IntKind.i64.wrap ((u.x2 : Int) + (m : Int)) = (u.x2 : Int) + (m : Int) := by rw [IntKind.wrap_i64]; have := HU.out.1.h2; omega
              have cx7 := BX.out.cell
              have fx7 := BX.out.frozen 3
              have z8 : (w7.setCell ⟨wv.heap.size, 3, none⟩ (.int .i64 ((u.x2 : Int) + (m : Int)))).heap.size = w7.heap.size := by simp [World.setCell]
              have z9 : ((w7.setCell ⟨wv.heap.size, 3, none⟩ (.int .i64 ((u.x2 : Int) + (m : Int)))).alloc (.cells #[.string a.id, .int .i64 (u.x0 : Int), .int .i64 (u.x1 : Int), .int .i64 ((u.x2 : Int) + (m : Int)), .string b.id, .int .i64 (v.x0 : Int), .int .i64 (v.x1 : Int), .int .i64 (v.x2 : Int)] 33)).heap.size = w7.heap.size + 1 := by simp [World.setCell]
              have bx8 : Blk (w7.setCell ⟨wv.heap.size, 3, none⟩ (.int .i64 ((u.x2 : Int) + (m : Int)))) (wv.heap.size) 33 #[.string a.id, .int .i64 (u.x0 : Int), .int .i64 (u.x1 : Int), .int .i64 ((u.x2 : Int) + (m : Int))] := by
                have h := BX.out.set_ 3 (.int .i64 ((u.x2 : Int) + (m : Int)))
                simpa using h
              have BY8 := Lib.hid (BY.out.far (p := ⟨wv.heap.size, 3, none⟩) (by show wv.heap.size + 1 ≠ wv.heap.size; omega) (.int .i64 ((u.x2 : Int) + (m : Int))))
              have W8 := Lib.hid (HQ.out.far (p := ⟨wv.heap.size, 3, none⟩) (by have := HLT.out; show _ < wv.heap.size; omega) (.int .i64 ((u.x2 : Int) + (m : Int))))
              have cx8 := bx8.cell
              have cy8 := BY8.out.cell
              have BX8 := Lib.hid bx8
              have W10 := Lib.hid ((W8.out.alloc (.cells #[.string a.id, .int .i64 (u.x0 : Int), .int .i64 (u.x1 : Int), .int .i64 ((u.x2 : Int) + (m : Int)), .string b.id, .int .i64 (v.x0 : Int), .int .i64 (v.x1 : Int), .int .i64 (v.x2 : Int)] 33)).alloc (.cells #[.int .i64 0, .int .i64 0, .int .i64 0, .int .i64 0, .slice (some ⟨w7.heap.size, 0, none⟩) 2 2] 36))
              have row10 := (Blk.new (w7.setCell ⟨wv.heap.size, 3, none⟩ (.int .i64 ((u.x2 : Int) + (m : Int)))) 33 #[.string a.id, .int .i64 (u.x0 : Int), .int .i64 (u.x1 : Int), .int .i64 ((u.x2 : Int) + (m : Int)), .string b.id, .int .i64 (v.x0 : Int), .int .i64 (v.x1 : Int), .int .i64 (v.x2 : Int)]).alloc (.cells #[.int .i64 0, .int .i64 0, .int .i64 0, .int .i64 0, .slice (some ⟨w7.heap.size, 0, none⟩) 2 2] 36)
              rw [z8] at row10
              have sm10 := Blk.new ((w7.setCell ⟨wv.heap.size, 3, none⟩ (.int .i64 ((u.x2 : Int) + (m : Int)))).alloc (.cells #[.string a.id, .int .i64 (u.x0 : Int), .int .i64 (u.x1 : Int), .int .i64 ((u.x2 : Int) + (m : Int)), .string b.id, .int .i64 (v.x0 : Int), .int .i64 (v.x1 : Int), .int .i64 (v.x2 : Int)] 33)) 36 #[.int .i64 0, .int .i64 0, .int .i64 0, .int .i64 0, .slice (some ⟨w7.heap.size, 0, none⟩) 2 2]
              rw [z9] at sm10
              have bx10 := (BX8.out.alloc (.cells #[.string a.id, .int .i64 (u.x0 : Int), .int .i64 (u.x1 : Int), .int .i64 ((u.x2 : Int) + (m : Int)), .string b.id, .int .i64 (v.x0 : Int), .int .i64 (v.x1 : Int), .int .i64 (v.x2 : Int)] 33)).alloc (.cells #[.int .i64 0, .int .i64 0, .int .i64 0, .int .i64 0, .slice (some ⟨w7.heap.size, 0, none⟩) 2 2] 36)
              have by10 := (BY8.out.alloc (.cells #[.string a.id, .int .i64 (u.x0 : Int), .int .i64 (u.x1 : Int), .int .i64 ((u.x2 : Int) + (m : Int)), .string b.id, .int .i64 (v.x0 : Int), .int .i64 (v.x1 : Int), .int .i64 (v.x2 : Int)] 33)).alloc (.cells #[.int .i64 0, .int .i64 0, .int .i64 0, .int .i64 0, .slice (some ⟨w7.heap.size, 0, none⟩) 2 2] 36)
              have cpa10 := W10.out.pa.cell
              have cpb10 := W10.out.pb.cell
              have csm10 := sm10.cell
              have ROW10 := Lib.hid row10
              have SM10 := Lib.hid sm10
              have BX10 := Lib.hid bx10
              have BY10 := Lib.hid by10
              have HLT7 := Lib.hid HQ.out.lt
              have HNlt : Hid (wv.heap.size + 1 < w7.heap.size) := BY.out.lt
              have HSXn : Hid (⟨a.id, (u.x0 : Int), (u.x1 : Int), ((u.x2 : Int) + (m : Int))⟩ : Us).Sm := ⟨by simp only; omega, by simp only; omega, by simp only; omega, by have := HU.out.1.h0; simp only; omega, by have := HU.out.1.h1; simp only; omega, by have := HU.out.1.h2; simp only; omega⟩
              clear bx8 row10 sm10
              clear bx10 by10
              go_wp2_with fail
              have HQ := W10
              have ROW := ROW10
              have HTN : Hid (Two a b (⟨a.id, (u.x0 : Int), (u.x1 : Int), ((u.x2 : Int) + (m : Int))⟩ : Us) (⟨b.id, (v.x0 : Int), (v.x1 : Int), (v.x2 : Int)⟩ : Us) [(⟨a.id, (u.x0 : Int), (u.x1 : Int), ((u.x2 : Int) + (m : Int))⟩ : Us), (⟨b.id, (v.x0 : Int), (v.x1 : Int), (v.x2 : Int)⟩ : Us)]) := Two.ab HBL.out rfl rfl
              have HEN := Lib.hid (exokT (k := 2) HTN.out HAR.out HBR.out HSXn.out HSY.out)
              have Hv3 : Hid (aheadB 2 a b [(⟨a.id, (u.x0 : Int), (u.x1 : Int), ((u.x2 : Int) + (m : Int))⟩ : Us), (⟨b.id, (v.x0 : Int), (v.x1 : Int), (v.x2 : Int)⟩ : Us)] = true) := ahead_more (l := [(⟨a.id, (u.x0 : Int), (u.x1 : Int), (u.x2 : Int)⟩ : Us), (⟨b.id, (v.x0 : Int), (v.x1 : Int), (v.x2 : Int)⟩ : Us)]) (by rw [HTW.out.exA, HTN.out.exA]; simp only [amt]; simp; omega) (by rw [HTW.out.exB, HTN.out.exB]) Hv1.out
              refine (aheadM (k := 2) (by decide) HTN.out Hv3.out ROW.out rfl HEN.out.1 HEN.out.2).mono ?_; rintro e w13 ⟨rfl, hb⟩
              have HQ := Lib.hid (HQ.out.below hb)
              clear hb
              go_wp2_with fail
              go_ret
              exact ⟨rfl, HQ.out.bel⟩
        · have HBL : Hid (blt b.id a.id = true) := hba
          have hl2 : Op.bytesLess b.id.toList a.id.toList = true := hba
          clear hba
          rcases signal_cases n with hk | hk | hk
          · have HSG := Lib.hid (signalV hk wv)
            clear hk
            go_wp2_with fail
            refine HSG.out.mono ?_; rintro e wk ⟨rfl, rfl⟩
            have z3 : (((wv.alloc (.cells #[.string a.id, .int .i64 (u.x0 : Int), .int .i64 (u.x1 : Int), .int .i64 (u.x2 : Int)] 33)).alloc (.cells #[.string b.id, .int .i64 (v.x0 : Int), .int .i64 (v.x1 : Int), .int .i64 (v.x2 : Int)] 33)).alloc (.cells #[.string a.id, .int .i64 (u.x0 : Int), .int .i64 (u.x1 : Int), .int .i64 (u.x2 : Int), .string b.id, .int .i64 (v.x0 : Int), .int .i64 (v.x1 : Int), .int .i64 (v.x2 : Int)] 33)).heap.size = wv.heap.size + 1 + 1 + 1 := by simp
            have W4 := Lib.hid ((W2.out.alloc (.cells #[.string a.id, .int .i64 (u.x0 : Int), .int .i64 (u.x1 : Int), .int .i64 (u.x2 : Int), .string b.id, .int .i64 (v.x0 : Int), .int .i64 (v.x1 : Int), .int .i64 (v.x2 : Int)] 33)).alloc (.cells #[.int .i64 0, .int .i64 0, .int .i64 0, .int .i64 0, .slice (some ⟨wv.heap.size + 1 + 1, 0, none⟩) 2 2] 36))
            have row4 := (Blk.new ((wv.alloc (.cells #[.string a.id, .int .i64 (u.x0 : Int), .int .i64 (u.x1 : Int), .int .i64 (u.x2 : Int)] 33)).alloc (.cells #[.string b.id, .int .i64 (v.x0 : Int), .int .i64 (v.x1 : Int), .int .i64 (v.x2 : Int)] 33)) 33 #[.string a.id, .int .i64 (u.x0 : Int), .int .i64 (u.x1 : Int), .int .i64 (u.x2 : Int), .string b.id, .int .i64 (v.x0 : Int), .int .i64 (v.x1 : Int), .int .i64 (v.x2 : Int)]).alloc (.cells #[.int .i64 0, .int .i64 0, .int .i64 0, .int .i64 0, .slice (some ⟨wv.heap.size + 1 + 1, 0, none⟩) 2 2] 36)
            rw [z2] at row4
            have sm4 := Blk.new (((wv.alloc (.cells #[.string a.id, .int .i64 (u.x0 : Int), .int .i64 (u.x1 : Int), .int .i64 (u.x2 : Int)] 33)).alloc (.cells #[.string b.id, .int .i64 (v.x0 : Int), .int .i64 (v.x1 : Int), .int .i64 (v.x2 : Int)] 33)).alloc (.cells #[.string a.id, .int .i64 (u.x0 : Int), .int .i64 (u.x1 : Int), .int .i64 (u.x2 : Int), .string b.id, .int .i64 (v.x0 : Int), .int .i64 (v.x1 : Int), .int .i64 (v.x2 : Int)] 33)) 36 #[.int .i64 0, .int .i64 0, .int .i64 0, .int .i64 0, .slice (some ⟨wv.heap.size + 1 + 1, 0, none⟩) 2 2]
            rw [z3] at sm4
            have bx4 := (BX2.out.alloc (.cells #[.string a.id, .int .i64 (u.x0 : Int), .int .i64 (u.x1 : Int), .int .i64 (u.x2 : Int), .string b.id, .int .i64 (v.x0 : Int), .int .i64 (v.x1 : Int), .int .i64 (v.x2 : Int)] 33)).alloc (.cells #[.int .i64 0, .int .i64 0, .int .i64 0, .int .i64 0, .slice (some ⟨wv.heap.size + 1 + 1, 0, none⟩) 2 2] 36)
            have by4 := (BY2.out.alloc (.cells #[.string a.id, .int .i64 (u.x0 : Int), .int .i64 (u.x1 : Int), .int .i64 (u.x2 : Int), .string b.id, .int .i64 (v.x0 : Int), .int .i64 (v.x1 : Int), .int .i64 (v.x2 : Int)] 33)).alloc (.cells #[.int .i64 0, .int .i64 0, .int .i64 0, .int .i64 0, .slice (some ⟨wv.heap.size + 1 + 1, 0, none⟩) 2 2] 36)
            have cpa4 := W4.out.pa.cell
            have cpb4 := W4.out.pb.cell
            have csm4 := sm4.cell
            have ROW := Lib.hid row4
            have BX := Lib.hid bx4
            have BY := Lib.hid by4
            have SM := Lib.hid sm4
            clear row4 sm4
            have cx4 := bx4.cell
            have cy4 := by4.cell
            have z4 : ((((wv.alloc (.cells #[.string a.id, .int .i64 (u.x0 : Int), .int .i64 (u.x1 : Int), .int .i64 (u.x2 : Int)] 33)).alloc (.cells #[.string b.id, .int .i64 (v.x0 : Int), .int .i64 (v.x1 : Int), .int .i64 (v.x2 : Int)] 33)).alloc (.cells #[.string a.id, .int .i64 (u.x0 : Int), .int .i64 (u.x1 : Int), .int .i64 (u.x2 : Int), .string b.id, .int .i64 (v.x0 : Int), .int .i64 (v.x1 : Int), .int .i64 (v.x2 : Int)] 33)).alloc (.cells #[.int .i64 0, .int .i64 0, .int .i64 0, .int .i64 0, .slice (some ⟨wv.heap.size + 1 + 1, 0, none⟩) 2 2] 36)).heap.size = wv.heap.size + 1 + 1 + 1 + 1 := by simp
            have row5 := Blk.new ((((wv.alloc (.cells #[.string a.id, .int .i64 (u.x0 : Int), .int .i64 (u.x1 : Int), .int .i64 (u.x2 : Int)] 33)).alloc (.cells #[.string b.id, .int .i64 (v.x0 : Int), .int .i64 (v.x1 : Int), .int .i64 (v.x2 : Int)] 33)).alloc (.cells #[.string a.id, .int .i64 (u.x0 : Int), .int .i64 (u.x1 : Int), .int .i64 (u.x2 : Int), .string b.id, .int .i64 (v.x0 : Int), .int .i64 (v.x1 : Int), .int .i64 (v.x2 : Int)] 33)).alloc (.cells #[.int .i64 0, .int .i64 0, .int .i64 0, .int .i64 0, .slice (some ⟨wv.heap.size + 1 + 1, 0, none⟩) 2 2] 36)) 33 #[.string b.id, .int .i64 (v.x0 : Int), .int .i64 (v.x1 : Int), .int .i64 (v.x2 : Int), .string a.id, .int .i64 (u.x0 : Int), .int .i64 (u.x1 : Int), .int .i64 (u.x2 : Int)]
            rw [z4] at row5
            have ROW5 := Lib.hid row5
            have W5 := Lib.hid (W4.out.alloc (.cells #[.string b.id, .int .i64 (v.x0 : Int), .int .i64 (v.x1 : Int), .int .i64 (v.x2 : Int), .string a.id, .int .i64 (u.x0 : Int), .int .i64 (u.x1 : Int), .int .i64 (u.x2 : Int)] 33))
            have BX5 := Lib.hid (BX.out.alloc (.cells #[.string b.id, .int .i64 (v.x0 : Int), .int .i64 (v.x1 : Int), .int .i64 (v.x2 : Int), .string a.id, .int .i64 (u.x0 : Int), .int .i64 (u.x1 : Int), .int .i64 (u.x2 : Int)] 33))
            have BY5 := Lib.hid (BY.out.alloc (.cells #[.string b.id, .int .i64 (v.x0 : Int), .int .i64 (v.x1 : Int), .int .i64 (v.x2 : Int), .string a.id, .int .i64 (u.x0 : Int), .int .i64 (u.x1 : Int), .int .i64 (u.x2 : Int)] 33))
            have SM5 := Lib.hid (SM.out.alloc (.cells #[.string b.id, .int .i64 (v.x0 : Int), .int .i64 (v.x1 : Int), .int .i64 (v.x2 : Int), .string a.id, .int .i64 (u.x0 : Int), .int .i64 (u.x1 : Int), .int .i64 (u.x2 : Int)] 33))
            clear bx4 by4 row5 z4
            go_wp2_with (refine wl_store_blk rfl 36 (.tmp 16) (.tmp 85) rfl (wv.heap.size + 1 + 1 + 1) 36 #[.int .i64 0, .int .i64 0, .int .i64 0, .int .i64 0, .slice (some ⟨wv.heap.size + 1 + 1, 0, none⟩) 2 2] #[.int .i64 0, .int .i64 0, .int .i64 0, .int .i64 0, .slice (some ⟨wv.heap.size + 1 + 1 + 1 + 1, 0, none⟩) 2 2] rfl rfl SM5.out rfl szSm (by simp [Value.oneCell']) ?_; intro w6 hR6 hg6 hs6; have W6 := Lib.hid (W5.out.grown hg6 (by have := HLT.out; omega)); have ROW6 := Lib.hid (ROW5.out.grown hg6 (by intro e; injection e with e; omega)); have BX6 := Lib.hid (BX5.out.grown hg6 (by intro e; injection e with e; omega)); have BY6 := Lib.hid (BY5.out.grown hg6 (by intro e; injection e with e; omega)); have cpa6 := W6.out.pa.cell; have cpb6 := W6.out.pb.cell; have csm6 := hR6.cell; have SM6 := Lib.hid hR6; clear hR6 hg6 hs6)
            have HQ := W6
            have ROW := ROW6
            have BX := BX6
            have BY := BY6
            have SM := SM6
            have HTW : Hid (Two a b (⟨a.id, (u.x0 : Int), (u.x1 : Int), (u.x2 : Int)⟩ : Us) (⟨b.id, (v.x0 : Int), (v.x1 : Int), (v.x2 : Int)⟩ : Us) [(⟨b.id, (v.x0 : Int), (v.x1 : Int), (v.x2 : Int)⟩ : Us), (⟨a.id, (u.x0 : Int), (u.x1 : Int), (u.x2 : Int)⟩ : Us)]) := Two.ba HBL.out rfl rfl
            have HEX := Lib.hid (exokT (k := 0) HTW.out HAR.out HBR.out HSX.out HSY.out)
            cases hv1 : aheadB 0 a b [(⟨b.id, (v.x0 : Int), (v.x1 : Int), (v.x2 : Int)⟩ : Us), (⟨a.id, (u.x0 : Int), (u.x1 : Int), (u.x2 : Int)⟩ : Us)]
            · have Hv1 := Lib.hid hv1
              have Hv2 := Lib.hid (ahead_total HNE.out hv1)
              clear hv1
              refine (aheadM (k := 0) (by decide) HTW.out Hv1.out ROW.out rfl HEX.out.1 HEX.out.2).mono ?_; rintro e w7 ⟨rfl, hb⟩
              have HQ := Lib.hid (HQ.out.below hb)
              have ROW := Lib.hid (ROW.out.belowAll hb)
              have SM := Lib.hid (SM.out.belowAll hb)
              have cpa7 := HQ.out.pa.cell
              have cpb7 := HQ.out.pb.cell
              have csm7 := SM.out.cell
              clear hb
              go_wp2_with fail
              refine (aheadM (k := 0) (by decide) HTW.out Hv2.out ROW.out rfl HEX.out.2 HEX.out.1).mono ?_; rintro e w8 ⟨rfl, hb⟩
              have HQ := Lib.hid (HQ.out.below hb)
              clear hb
              go_wp2_with fail
              go_ret
              exact ⟨rfl, HQ.out.bel⟩
            · have Hv1 := Lib.hid hv1
              clear hv1
              refine (aheadM (k := 0) (by decide) HTW.out Hv1.out ROW.out rfl HEX.out.1 HEX.out.2).mono ?_; rintro e w7 ⟨rfl, hb⟩
              have HQ := Lib.hid (HQ.out.below hb)
              have BX := Lib.hid (BX.out.belowAll hb)
              have BY := Lib.hid (BY.out.belowAll hb)
              clear hb
              have hws : IntKind.i64.wrap ((u.x0 : Int) + (m : Int)) = (u.x0 : Int) + (m : Int) := by rw [IntKind.wrap_i64]; have := HU.out.1.h0; omega
              have cx7 := BX.out.cell
              have fx7 := BX.out.frozen 1
              have z8 : (w7.setCell ⟨wv.heap.size, 1, none⟩ (.int .i64 ((u.x0 : Int) + (m : Int)))).heap.size = w7.heap.size := by simp [World.setCell]
              have z9 : ((w7.setCell ⟨wv.heap.size, 1, none⟩ (.int .i64 ((u.x0 : Int) + (m : Int)))).alloc (.cells #[.string a.id, .int .i64 ((u.x0 : Int) + (m : Int)), .int .i64 (u.x1 : Int), .int .i64 (u.x2 : Int), .string b.id, .int .i64 (v.x0 : Int), .int .i64 (v.x1 : Int), .int .i64 (v.x2 : Int)] 33)).heap.size = w7.heap.size + 1 := by simp [World.setCell]
              have bx8 : Blk (w7.setCell ⟨wv.heap.size, 1, none⟩ (.int .i64 ((u.x0 : Int) + (m : Int)))) (wv.heap.size) 33 #[.string a.id, .int .i64 ((u.x0 : Int) + (m : Int)), .int .i64 (u.x1 : Int), .int .i64 (u.x2 : Int)] := by
                have h := BX.out.set_ 1 (.int .i64 ((u.x0 : Int) + (m : Int)))
                simpa using h
              have BY8 := Lib.hid (BY.out.far (p := ⟨wv.heap.size, 1, none⟩) (by show wv.heap.size + 1 ≠ wv.heap.size; omega) (.int .i64 ((u.x0 : Int) + (m : Int))))
              have W8 := Lib.hid (HQ.out.far (p := ⟨wv.heap.size, 1, none⟩) (by have := HLT.out; show _ < wv.heap.size; omega) (.int .i64 ((u.x0 : Int) + (m : Int))))
              have cx8 := bx8.cell
              have cy8 := BY8.out.cell
              have BX8 := Lib.hid bx8
              have W10 := Lib.hid ((W8.out.alloc (.cells #[.string a.id, .int .i64 ((u.x0 : Int) + (m : Int)), .int .i64 (u.x1 : Int), .int .i64 (u.x2 : Int), .string b.id, .int .i64 (v.x0 : Int), .int .i64 (v.x1 : Int), .int .i64 (v.x2 : Int)] 33)).alloc (.cells #[.int .i64 0, .int .i64 0, .int .i64 0, .int .i64 0, .slice (some ⟨w7.heap.size, 0, none⟩) 2 2] 36))
              have row10 := (Blk.new (w7.setCell ⟨wv.heap.size, 1, none⟩ (.int .i64 ((u.x0 : Int) + (m : Int)))) 33 #[.string a.id, .int .i64 ((u.x0 : Int) + (m : Int)), .int .i64 (u.x1 : Int), .int .i64 (u.x2 : Int), .string b.id, .int .i64 (v.x0 : Int), .int .i64 (v.x1 : Int), .int .i64 (v.x2 : Int)]).alloc (.cells #[.int .i64 0, .int .i64 0, .int .i64 0, .int .i64 0, .slice (some ⟨w7.heap.size, 0, none⟩) 2 2] 36)
              rw [z8] at row10
              have sm10 := Blk.new ((w7.setCell ⟨wv.heap.size, 1, none⟩ (.int .i64 ((u.x0 : Int) + (m : Int)))).alloc (.cells #[.string a.id, .int .i64 ((u.x0 : Int) + (m : Int)), .int .i64 (u.x1 : Int), .int .i64 (u.x2 : Int), .string b.id, .int .i64 (v.x0 : Int), .int .i64 (v.x1 : Int), .int .i64 (v.x2 : Int)] 33)) 36 #[.int .i64 0, .int .i64 0, .int .i64 0, .int .i64 0, .slice (some ⟨w7.heap.size, 0, none⟩) 2 2]
              rw [z9] at sm10
              have bx10 := (BX8.out.alloc (.cells #[.string a.id, .int .i64 ((u.x0 : Int) + (m : Int)), .int .i64 (u.x1 : Int), .int .i64 (u.x2 : Int), .string b.id, .int .i64 (v.x0 : Int), .int .i64 (v.x1 : Int), .int .i64 (v.x2 : Int)] 33)).alloc (.cells #[.int .i64 0, .int .i64 0, .int .i64 0, .int .i64 0, .slice (some ⟨w7.heap.size, 0, none⟩) 2 2] 36)
              have by10 := (BY8.out.alloc (.cells #[.string a.id, .int .i64 ((u.x0 : Int) + (m : Int)), .int .i64 (u.x1 : Int), .int .i64 (u.x2 : Int), .string b.id, .int .i64 (v.x0 : Int), .int .i64 (v.x1 : Int), .int .i64 (v.x2 : Int)] 33)).alloc (.cells #[.int .i64 0, .int .i64 0, .int .i64 0, .int .i64 0, .slice (some ⟨w7.heap.size, 0, none⟩) 2 2] 36)
              have cpa10 := W10.out.pa.cell
              have cpb10 := W10.out.pb.cell
              have csm10 := sm10.cell
              have ROW10 := Lib.hid row10
              have SM10 := Lib.hid sm10
              have BX10 := Lib.hid bx10
              have BY10 := Lib.hid by10
              have HLT7 := Lib.hid HQ.out.lt
              have HNlt : Hid (wv.heap.size + 1 < w7.heap.size) := BY.out.lt
              have HSXn : Hid (⟨a.id, ((u.x0 : Int) + (m : Int)), (u.x1 : Int), (u.x2 : Int)⟩ : Us).Sm := ⟨by simp only; omega, by simp only; omega, by simp only; omega, by have := HU.out.1.h0; simp only; omega, by have := HU.out.1.h1; simp only; omega, by have := HU.out.1.h2; simp only; omega⟩
              clear bx8 row10 sm10
              have cx10 := bx10.cell
              have cy10 := by10.cell
              have z10 : (((w7.setCell ⟨wv.heap.size, 1, none⟩ (.int .i64 ((u.x0 : Int) + (m : Int)))).alloc (.cells #[.string a.id, .int .i64 ((u.x0 : Int) + (m : Int)), .int .i64 (u.x1 : Int), .int .i64 (u.x2 : Int), .string b.id, .int .i64 (v.x0 : Int), .int .i64 (v.x1 : Int), .int .i64 (v.x2 : Int)] 33)).alloc (.cells #[.int .i64 0, .int .i64 0, .int .i64 0, .int .i64 0, .slice (some ⟨w7.heap.size, 0, none⟩) 2 2] 36)).heap.size = w7.heap.size + 1 + 1 := by simp [World.setCell]
              have row11 := Blk.new (((w7.setCell ⟨wv.heap.size, 1, none⟩ (.int .i64 ((u.x0 : Int) + (m : Int)))).alloc (.cells #[.string a.id, .int .i64 ((u.x0 : Int) + (m : Int)), .int .i64 (u.x1 : Int), .int .i64 (u.x2 : Int), .string b.id, .int .i64 (v.x0 : Int), .int .i64 (v.x1 : Int), .int .i64 (v.x2 : Int)] 33)).alloc (.cells #[.int .i64 0, .int .i64 0, .int .i64 0, .int .i64 0, .slice (some ⟨w7.heap.size, 0, none⟩) 2 2] 36)) 33 #[.string b.id, .int .i64 (v.x0 : Int), .int .i64 (v.x1 : Int), .int .i64 (v.x2 : Int), .string a.id, .int .i64 ((u.x0 : Int) + (m : Int)), .int .i64 (u.x1 : Int), .int .i64 (u.x2 : Int)]
              rw [z10] at row11
              have ROW11 := Lib.hid row11
              have W11 := Lib.hid (W10.out.alloc (.cells #[.string b.id, .int .i64 (v.x0 : Int), .int .i64 (v.x1 : Int), .int .i64 (v.x2 : Int), .string a.id, .int .i64 ((u.x0 : Int) + (m : Int)), .int .i64 (u.x1 : Int), .int .i64 (u.x2 : Int)] 33))
              have SM11 := Lib.hid (SM10.out.alloc (.cells #[.string b.id, .int .i64 (v.x0 : Int), .int .i64 (v.x1 : Int), .int .i64 (v.x2 : Int), .string a.id, .int .i64 ((u.x0 : Int) + (m : Int)), .int .i64 (u.x1 : Int), .int .i64 (u.x2 : Int)] 33))
              clear bx10 by10 row11 z10
              go_wp2_with (refine wl_store_blk rfl 36 (.tmp 17) (.tmp 119) rfl (w7.heap.size + 1) 36 #[.int .i64 0, .int .i64 0, .int .i64 0, .int .i64 0, .slice (some ⟨w7.heap.size, 0, none⟩) 2 2] #[.int .i64 0, .int .i64 0, .int .i64 0, .int .i64 0, .slice (some ⟨w7.heap.size + 1 + 1, 0, none⟩) 2 2] rfl rfl SM11.out rfl szSm (by simp [Value.oneCell']) ?_; intro w12 hR12 hg12 hs12; have W12 := Lib.hid (W11.out.grown hg12 (by have := HLT7.out; omega)); have ROW12 := Lib.hid (ROW11.out.grown hg12 (by intro e; injection e with e; omega)); have cpa12 := W12.out.pa.cell; have cpb12 := W12.out.pb.cell; have csm12 := hR12.cell; clear hR12 hg12 hs12)
              have HQ := W12
              have ROW := ROW12
              have HTN : Hid (Two a b (⟨a.id, ((u.x0 : Int) + (m : Int)), (u.x1 : Int), (u.x2 : Int)⟩ : Us) (⟨b.id, (v.x0 : Int), (v.x1 : Int), (v.x2 : Int)⟩ : Us) [(⟨b.id, (v.x0 : Int), (v.x1 : Int), (v.x2 : Int)⟩ : Us), (⟨a.id, ((u.x0 : Int) + (m : Int)), (u.x1 : Int), (u.x2 : Int)⟩ : Us)]) := Two.ba HBL.out rfl rfl
              have HEN := Lib.hid (exokT (k := 0) HTN.out HAR.out HBR.out HSXn.out HSY.out)
              have Hv3 : Hid (aheadB 0 a b [(⟨b.id, (v.x0 : Int), (v.x1 : Int), (v.x2 : Int)⟩ : Us), (⟨a.id, ((u.x0 : Int) + (m : Int)), (u.x1 : Int), (u.x2 : Int)⟩ : Us)] = true) := ahead_more (l := [(⟨b.id, (v.x0 : Int), (v.x1 : Int), (v.x2 : Int)⟩ : Us), (⟨a.id, (u.x0 : Int), (u.x1 : Int), (u.x2 : Int)⟩ : Us)]) (by rw [HTW.out.exA, HTN.out.exA]; simp only [amt]; simp; omega) (by rw [HTW.out.exB, HTN.out.exB]) Hv1.out
              refine (aheadM (k := 0) (by decide) HTN.out Hv3.out ROW.out rfl HEN.out.1 HEN.out.2).mono ?_; rintro e w13 ⟨rfl, hb⟩
              have HQ := Lib.hid (HQ.out.below hb)
              clear hb
              go_wp2_with fail
              go_ret
              exact ⟨rfl, HQ.out.bel⟩
          · have HSG := Lib.hid (signalV hk wv)
            clear hk
            go_wp2_with fail
            refine HSG.out.mono ?_; rintro e wk ⟨rfl, rfl⟩
            have z3 : (((wv.alloc (.cells #[.string a.id, .int .i64 (u.x0 : Int), .int .i64 (u.x1 : Int), .int .i64 (u.x2 : Int)] 33)).alloc (.cells #[.string b.id, .int .i64 (v.x0 : Int), .int .i64 (v.x1 : Int), .int .i64 (v.x2 : Int)] 33)).alloc (.cells #[.string a.id, .int .i64 (u.x0 : Int), .int .i64 (u.x1 : Int), .int .i64 (u.x2 : Int), .string b.id, .int .i64 (v.x0 : Int), .int .i64 (v.x1 : Int), .int .i64 (v.x2 : Int)] 33)).heap.size = wv.heap.size + 1 + 1 + 1 := by simp
            have W4 := Lib.hid ((W2.out.alloc (.cells #[.string a.id, .int .i64 (u.x0 : Int), .int .i64 (u.x1 : Int), .int .i64 (u.x2 : Int), .string b.id, .int .i64 (v.x0 : Int), .int .i64 (v.x1 : Int), .int .i64 (v.x2 : Int)] 33)).alloc (.cells #[.int .i64 0, .int .i64 0, .int .i64 0, .int .i64 0, .slice (some ⟨wv.heap.size + 1 + 1, 0, none⟩) 2 2] 36))
            have row4 := (Blk.new ((wv.alloc (.cells #[.string a.id, .int .i64 (u.x0 : Int), .int .i64 (u.x1 : Int), .int .i64 (u.x2 : Int)] 33)).alloc (.cells #[.string b.id, .int .i64 (v.x0 : Int), .int .i64 (v.x1 : Int), .int .i64 (v.x2 : Int)] 33)) 33 #[.string a.id, .int .i64 (u.x0 : Int), .int .i64 (u.x1 : Int), .int .i64 (u.x2 : Int), .string b.id, .int .i64 (v.x0 : Int), .int .i64 (v.x1 : Int), .int .i64 (v.x2 : Int)]).alloc (.cells #[.int .i64 0, .int .i64 0, .int .i64 0, .int .i64 0, .slice (some ⟨wv.heap.size + 1 + 1, 0, none⟩) 2 2] 36)
            rw [z2] at row4
            have sm4 := Blk.new (((wv.alloc (.cells #[.string a.id, .int .i64 (u.x0 : Int), .int .i64 (u.x1 : Int), .int .i64 (u.x2 : Int)] 33)).alloc (.cells #[.string b.id, .int .i64 (v.x0 : Int), .int .i64 (v.x1 : Int), .int .i64 (v.x2 : Int)] 33)).alloc (.cells #[.string a.id, .int .i64 (u.x0 : Int), .int .i64 (u.x1 : Int), .int .i64 (u.x2 : Int), .string b.id, .int .i64 (v.x0 : Int), .int .i64 (v.x1 : Int), .int .i64 (v.x2 : Int)] 33)) 36 #[.int .i64 0, .int .i64 0, .int .i64 0, .int .i64 0, .slice (some ⟨wv.heap.size + 1 + 1, 0, none⟩) 2 2]
            rw [z3] at sm4
            have bx4 := (BX2.out.alloc (.cells #[.string a.id, .int .i64 (u.x0 : Int), .int .i64 (u.x1 : Int), .int .i64 (u.x2 : Int), .string b.id, .int .i64 (v.x0 : Int), .int .i64 (v.x1 : Int), .int .i64 (v.x2 : Int)] 33)).alloc (.cells #[.int .i64 0, .int .i64 0, .int .i64 0, .int .i64 0, .slice (some ⟨wv.heap.size + 1 + 1, 0, none⟩) 2 2] 36)
            have by4 := (BY2.out.alloc (.cells #[.string a.id, .int .i64 (u.x0 : Int), .int .i64 (u.x1 : Int), .int .i64 (u.x2 : Int), .string b.id, .int .i64 (v.x0 : Int), .int .i64 (v.x1 : Int), .int .i64 (v.x2 : Int)] 33)).alloc (.cells #[.int .i64 0, .int .i64 0, .int .i64 0, .int .i64 0, .slice (some ⟨wv.heap.size + 1 + 1, 0, none⟩) 2 2] 36)
            have cpa4 := W4.out.pa.cell
            have cpb4 := W4.out.pb.cell
            have csm4 := sm4.cell
            have ROW := Lib.hid row4
            have BX := Lib.hid bx4
            have BY := Lib.hid by4
            have SM := Lib.hid sm4
            clear row4 sm4
            have cx4 := bx4.cell
            have cy4 := by4.cell
            have z4 : ((((wv.alloc (.cells #[.string a.id, .int .i64 (u.x0 : Int), .int .i64 (u.x1 : Int), .int .i64 (u.x2 : Int)] 33)).alloc (.cells #[.string b.id, .int .i64 (v.x0 : Int), .int .i64 (v.x1 : Int), .int .i64 (v.x2 : Int)] 33)).alloc (.cells #[.string a.id, .int .i64 (u.x0 : Int), .int .i64 (u.x1 : Int), .int .i64 (u.x2 : Int), .string b.id, .int .i64 (v.x0 : Int), .int .i64 (v.x1 : Int), .int .i64 (v.x2 : Int)] 33)).alloc (.cells #[.int .i64 0, .int .i64 0, .int .i64 0, .int .i64 0, .slice (some ⟨wv.heap.size + 1 + 1, 0, none⟩) 2 2] 36)).heap.size = wv.heap.size + 1 + 1 + 1 + 1 := by simp
            have row5 := Blk.new ((((wv.alloc (.cells #[.string a.id, .int .i64 (u.x0 : Int), .int .i64 (u.x1 : Int), .int .i64 (u.x2 : Int)] 33)).alloc (.cells #[.string b.id, .int .i64 (v.x0 : Int), .int .i64 (v.x1 : Int), .int .i64 (v.x2 : Int)] 33)).alloc (.cells #[.string a.id, .int .i64 (u.x0 : Int), .int .i64 (u.x1 : Int), .int .i64 (u.x2 : Int), .string b.id, .int .i64 (v.x0 : Int), .int .i64 (v.x1 : Int), .int .i64 (v.x2 : Int)] 33)).alloc (.cells #[.int .i64 0, .int .i64 0, .int .i64 0, .int .i64 0, .slice (some ⟨wv.heap.size + 1 + 1, 0, none⟩) 2 2] 36)) 33 #[.string b.id, .int .i64 (v.x0 : Int), .int .i64 (v.x1 : Int), .int .i64 (v.x2 : Int), .string a.id, .int .i64 (u.x0 : Int), .int .i64 (u.x1 : Int), .int .i64 (u.x2 : Int)]
            rw [z4] at row5
            have ROW5 := Lib.hid row5
            have W5 := Lib.hid (W4.out.alloc (.cells #[.string b.id, .int .i64 (v.x0 : Int), .int .i64 (v.x1 : Int), .int .i64 (v.x2 : Int), .string a.id, .int .i64 (u.x0 : Int), .int .i64 (u.x1 : Int), .int .i64 (u.x2 : Int)] 33))
            have BX5 := Lib.hid (BX.out.alloc (.cells #[.string b.id, .int .i64 (v.x0 : Int), .int .i64 (v.x1 : Int), .int .i64 (v.x2 : Int), .string a.id, .int .i64 (u.x0 : Int), .int .i64 (u.x1 : Int), .int .i64 (u.x2 : Int)] 33))
            have BY5 := Lib.hid (BY.out.alloc (.cells #[.string b.id, .int .i64 (v.x0 : Int), .int .i64 (v.x1 : Int), .int .i64 (v.x2 : Int), .string a.id, .int .i64 (u.x0 : Int), .int .i64 (u.x1 : Int), .int .i64 (u.x2 : Int)] 33))
            have SM5 := Lib.hid (SM.out.alloc (.cells #[.string b.id, .int .i64 (v.x0 : Int), .int .i64 (v.x1 : Int), .int .i64 (v.x2 : Int), .string a.id, .int .i64 (u.x0 : Int), .int .i64 (u.x1 : Int), .int .i64 (u.x2 : Int)] 33))
            clear bx4 by4 row5 z4
            go_wp2_with (refine wl_store_blk rfl 36 (.tmp 16) (.tmp 85) rfl (wv.heap.size + 1 + 1 + 1) 36 #[.int .i64 0, .int .i64 0, .int .i64 0, .int .i64 0, .slice (some ⟨wv.heap.size + 1 + 1, 0, none⟩) 2 2] #[.int .i64 0, .int .i64 0, .int .i64 0, .int .i64 0, .slice (some ⟨wv.heap.size + 1 + 1 + 1 + 1, 0, none⟩) 2 2] rfl rfl SM5.out rfl szSm (by simp [Value.oneCell']) ?_; intro w6 hR6 hg6 hs6; have W6 := Lib.hid (W5.out.grown hg6 (by have := HLT.out; omega)); have ROW6 := Lib.hid (ROW5.out.grown hg6 (by intro e; injection e with e; omega)); have BX6 := Lib.hid (BX5.out.grown hg6 (by intro e; injection e with e; omega)); have BY6 := Lib.hid (BY5.out.grown hg6 (by intro e; injection e with e; omega)); have cpa6 := W6.out.pa.cell; have cpb6 := W6.out.pb.cell; have csm6 := hR6.cell; have SM6 := Lib.hid hR6; clear hR6 hg6 hs6)
            have HQ := W6
            have ROW := ROW6
            have BX := BX6
            have BY := BY6
            have SM := SM6
            have HTW : Hid (Two a b (⟨a.id, (u.x0 : Int), (u.x1 : Int), (u.x2 : Int)⟩ : Us) (⟨b.id, (v.x0 : Int), (v.x1 : Int), (v.x2 : Int)⟩ : Us) [(⟨b.id, (v.x0 : Int), (v.x1 : Int), (v.x2 : Int)⟩ : Us), (⟨a.id, (u.x0 : Int), (u.x1 : Int), (u.x2 : Int)⟩ : Us)]) := Two.ba HBL.out rfl rfl
            have HEX := Lib.hid (exokT (k := 1) HTW.out HAR.out HBR.out HSX.out HSY.out)
            cases hv1 : aheadB 1 a b [(⟨b.id, (v.x0 : Int), (v.x1 : Int), (v.x2 : Int)⟩ : Us), (⟨a.id, (u.x0 : Int), (u.x1 : Int), (u.x2 : Int)⟩ : Us)]
            · have Hv1 := Lib.hid hv1
              have Hv2 := Lib.hid (ahead_total HNE.out hv1)
              clear hv1
              refine (aheadM (k := 1) (by decide) HTW.out Hv1.out ROW.out rfl HEX.out.1 HEX.out.2).mono ?_; rintro e w7 ⟨rfl, hb⟩
              have HQ := Lib.hid (HQ.out.below hb)
              have ROW := Lib.hid (ROW.out.belowAll hb)
              have SM := Lib.hid (SM.out.belowAll hb)
              have cpa7 := HQ.out.pa.cell
              have cpb7 := HQ.out.pb.cell
              have csm7 := SM.out.cell
              clear hb
              go_wp2_with fail
              refine (aheadM (k := 1) (by decide) HTW.out Hv2.out ROW.out rfl HEX.out.2 HEX.out.1).mono ?_; rintro e w8 ⟨rfl, hb⟩
              have HQ := Lib.hid (HQ.out.below hb)
              clear hb
              go_wp2_with fail
              go_ret
              exact ⟨rfl, HQ.out.bel⟩
            · have Hv1 := Lib.hid hv1
              clear hv1
              refine (aheadM (k := 1) (by decide) HTW.out Hv1.out ROW.out rfl HEX.out.1 HEX.out.2).mono ?_; rintro e w7 ⟨rfl, hb⟩
              have HQ := Lib.hid (HQ.out.below hb)
              have BX := Lib.hid (BX.out.belowAll hb)
              have BY := Lib.hid (BY.out.belowAll hb)
              clear hb
              have hws : IntKind.i64.wrap ((u.x1 : Int) + (m : Int)) = (u.x1 : Int) + (m : Int) := by rw [IntKind.wrap_i64]; have := HU.out.1.h1; omega
              have cx7 := BX.out.cell
              have fx7 := BX.out.frozen 2
              have z8 : (w7.setCell ⟨wv.heap.size, 2, none⟩ (.int .i64 ((u.x1 : Int) + (m : Int)))).heap.size = w7.heap.size := by simp [World.setCell]
              have z9 : ((w7.setCell ⟨wv.heap.size, 2, none⟩ (.int .i64 ((u.x1 : Int) + (m : Int)))).alloc (.cells #[.string a.id, .int .i64 (u.x0 : Int), .int .i64 ((u.x1 : Int) + (m : Int)), .int .i64 (u.x2 : Int), .string b.id, .int .i64 (v.x0 : Int), .int .i64 (v.x1 : Int), .int .i64 (v.x2 : Int)] 33)).heap.size = w7.heap.size + 1 := by simp [World.setCell]
              have bx8 : Blk (w7.setCell ⟨wv.heap.size, 2, none⟩ (.int .i64 ((u.x1 : Int) + (m : Int)))) (wv.heap.size) 33 #[.string a.id, .int .i64 (u.x0 : Int), .int .i64 ((u.x1 : Int) + (m : Int)), .int .i64 (u.x2 : Int)] := by
                have h := BX.out.set_ 2 (.int .i64 ((u.x1 : Int) + (m : Int)))
                simpa using h
              have BY8 := Lib.hid (BY.out.far (p := ⟨wv.heap.size, 2, none⟩) (by show wv.heap.size + 1 ≠ wv.heap.size; omega) (.int .i64 ((u.x1 : Int) + (m : Int))))
              have W8 := Lib.hid (HQ.out.far (p := ⟨wv.heap.size, 2, none⟩) (by have := HLT.out; show _ < wv.heap.size; omega) (.int .i64 ((u.x1 : Int) + (m : Int))))
              have cx8 := bx8.cell
              have cy8 := BY8.out.cell
              have BX8 := Lib.hid bx8
              have W10 := Lib.hid ((W8.out.alloc (.cells #[.string a.id, .int .i64 (u.x0 : Int), .int .i64 ((u.x1 : Int) + (m : Int)), .int .i64 (u.x2 : Int), .string b.id, .int .i64 (v.x0 : Int), .int .i64 (v.x1 : Int), .int .i64 (v.x2 : Int)] 33)).alloc (.cells #[.int .i64 0, .int .i64 0, .int .i64 0, .int .i64 0, .slice (some ⟨w7.heap.size, 0, none⟩) 2 2] 36))
              have row10 := (Blk.new (w7.setCell ⟨wv.heap.size, 2, none⟩ (.int .i64 ((u.x1 : Int) + (m : Int)))) 33 #[.string a.id, .int .i64 (u.x0 : Int), .int .i64 ((u.x1 : Int) + (m : Int)), .int .i64 (u.x2 : Int), .string b.id, .int .i64 (v.x0 : Int), .int .i64 (v.x1 : Int), .int .i64 (v.x2 : Int)]).alloc (.cells #[.int .i64 0, .int .i64 0, .int .i64 0, .int .i64 0, .slice (some ⟨w7.heap.size, 0, none⟩) 2 2] 36)
              rw [z8] at row10
              have sm10 := Blk.new ((w7.setCell ⟨wv.heap.size, 2, none⟩ (.int .i64 ((u.x1 : Int) + (m : Int)))).alloc (.cells #[.string a.id, .int .i64 (u.x0 : Int), .int .i64 ((u.x1 : Int) + (m : Int)), .int .i64 (u.x2 : Int), .string b.id, .int .i64 (v.x0 : Int), .int .i64 (v.x1 : Int), .int .i64 (v.x2 : Int)] 33)) 36 #[.int .i64 0, .int .i64 0, .int .i64 0, .int .i64 0, .slice (some ⟨w7.heap.size, 0, none⟩) 2 2]
              rw [z9] at sm10
              have bx10 := (BX8.out.alloc (.cells #[.string a.id, .int .i64 (u.x0 : Int), .int .i64 ((u.x1 : Int) + (m : Int)), .int .i64 (u.x2 : Int), .string b.id, .int .i64 (v.x0 : Int), .int .i64 (v.x1 : Int), .int .i64 (v.x2 : Int)] 33)).alloc (.cells #[.int .i64 0, .int .i64 0, .int .i64 0, .int .i64 0, .slice (some ⟨w7.heap.size, 0, none⟩) 2 2] 36)
              have by10 := (BY8.out.alloc (.cells #[.string a.id, .int .i64 (u.x0 : Int), .int .i64 ((u.x1 : Int) + (m : Int)), .int .i64 (u.x2 : Int), .string b.id, .int .i64 (v.x0 : Int), .int .i64 (v.x1 : Int), .int .i64 (v.x2 : Int)] 33)).alloc (.cells #[.int .i64 0, .int .i64 0, .int .i64 0, .int .i64 0, .slice (some ⟨w7.heap.size, 0, none⟩) 2 2] 36)
              have cpa10 := W10.out.pa.cell
              have cpb10 := W10.out.pb.cell
              have csm10 := sm10.cell
              have ROW10 := Lib.hid row10
              have SM10 := Lib.hid sm10
              have BX10 := Lib.hid bx10
              have BY10 := Lib.hid by10
              have HLT7 := Lib.hid HQ.out.lt
              have HNlt : Hid (wv.heap.size + 1 < w7.heap.size) := BY.out.lt
              have HSXn : Hid (⟨a.id, (u.x0 : Int), ((u.x1 : Int) + (m : Int)), (u.x2 : Int)⟩ : Us).Sm := ⟨by simp only; omega, by simp only; omega, by simp only; omega, by have := HU.out.1.h0; simp only; omega, by have := HU.out.1.h1; simp only; omega, by have := HU.out.1.h2; simp only; omega⟩
              clear bx8 row10 sm10
              have cx10 := bx10.cell
              have cy10 := by10.cell
              have z10 : (((w7.setCell ⟨wv.heap.size, 2, none⟩ (.int .i64 ((u.x1 : Int) + (m : Int)))).alloc (.cells #[.string a.id, .int .i64 (u.x0 : Int), .int .i64 ((u.x1 : Int) + (m : Int)), .int .i64 (u.x2 : Int), .string b.id, .int .i64 (v.x0 : Int), .int .i64 (v.x1 : Int), .int .i64 (v.x2 : Int)] 33)).alloc (.cells #[.int .i64 0, .int .i64 0, .int .i64 0, .int .i64 0, .slice (some ⟨w7.heap.size, 0, none⟩) 2 2] 36)).heap.size = w7.heap.size + 1 + 1 := by simp [World.setCell]
              have row11 := Blk.new (((w7.setCell ⟨wv.heap.size, 2, none⟩ (.int .i64 ((u.x1 : Int) + (m : Int)))).alloc (.cells #[.string a.id, .int .i64 (u.x0 : Int), .int .i64 ((u.x1 : Int) + (m : Int)), .int .i64 (u.x2 : Int), .string b.id, .int .i64 (v.x0 : Int), .int .i64 (v.x1 : Int), .int .i64 (v.x2 : Int)] 33)).alloc (.cells #[.int .i64 0, .int .i64 0, .int .i64 0, .int .i64 0, .slice (some ⟨w7.heap.size, 0, none⟩) 2 2] 36)) 33 #[.string b.id, .int .i64 (v.x0 : Int), .int .i64 (v.x1 : Int), .int .i64 (v.x2 : Int), .string a.id, .int .i64 (u.x0 : Int), .int .i64 ((u.x1 : Int) + (m : Int)), .int .i64 (u.x2 : Int)]
              rw [z10] at row11
              have ROW11 := Lib.hid row11
              have W11 := Lib.hid (W10.out.alloc (.cells #[.string b.id, .int .i64 (v.x0 : Int), .int .i64 (v.x1 : Int), .int .i64 (v.x2 : Int), .string a.id, .int .i64 (u.x0 : Int), .int .i64 ((u.x1 : Int) + (m : Int)), .int .i64 (u.x2 : Int)] 33))
              have SM11 := Lib.hid (SM10.out.alloc (.cells #[.string b.id, .int .i64 (v.x0 : Int), .int .i64 (v.x1 : Int), .int .i64 (v.x2 : Int), .string a.id, .int .i64 (u.x0 : Int), .int .i64 ((u.x1 : Int) + (m : Int)), .int .i64 (u.x2 : Int)] 33))
              clear bx10 by10 row11 z10
              go_wp2_with (refine wl_store_blk rfl 36 (.tmp 17) (.tmp 119) rfl (w7.heap.size + 1) 36 #[.int .i64 0, .int .i64 0, .int .i64 0, .int .i64 0, .slice (some ⟨w7.heap.size, 0, none⟩) 2 2] #[.int .i64 0, .int .i64 0, .int .i64 0, .int .i64 0, .slice (some ⟨w7.heap.size + 1 + 1, 0, none⟩) 2 2] rfl rfl SM11.out rfl szSm (by simp [Value.oneCell']) ?_; intro w12 hR12 hg12 hs12; have W12 := Lib.hid (W11.out.grown hg12 (by have := HLT7.out; omega)); have ROW12 := Lib.hid (ROW11.out.grown hg12 (by intro e; injection e with e; omega)); have cpa12 := W12.out.pa.cell; have cpb12 := W12.out.pb.cell; have csm12 := hR12.cell; clear hR12 hg12 hs12)
              have HQ := W12
              have ROW := ROW12
              have HTN : Hid (Two a b (⟨a.id, (u.x0 : Int), ((u.x1 : Int) + (m : Int)), (u.x2 : Int)⟩ : Us) (⟨b.id, (v.x0 : Int), (v.x1 : Int), (v.x2 : Int)⟩ : Us) [(⟨b.id, (v.x0 : Int), (v.x1 : Int), (v.x2 : Int)⟩ : Us), (⟨a.id, (u.x0 : Int), ((u.x1 : Int) + (m : Int)), (u.x2 : Int)⟩ : Us)]) := Two.ba HBL.out rfl rfl
              have HEN := Lib.hid (exokT (k := 1) HTN.out HAR.out HBR.out HSXn.out HSY.out)
              have Hv3 : Hid (aheadB 1 a b [(⟨b.id, (v.x0 : Int), (v.x1 : Int), (v.x2 : Int)⟩ : Us), (⟨a.id, (u.x0 : Int), ((u.x1 : Int) + (m : Int)), (u.x2 : Int)⟩ : Us)] = true) := ahead_more (l := [(⟨b.id, (v.x0 : Int), (v.x1 : Int), (v.x2 : Int)⟩ : Us), (⟨a.id, (u.x0 : Int), (u.x1 : Int), (u.x2 : Int)⟩ : Us)]) (by rw [HTW.out.exA, HTN.out.exA]; simp only [amt]; simp; omega) (by rw [HTW.out.exB, HTN.out.exB]) Hv1.out
              refine (aheadM (k := 1) (by decide) HTN.out Hv3.out ROW.out rfl HEN.out.1 HEN.out.2).mono ?_; rintro e w13 ⟨rfl, hb⟩
              have HQ := Lib.hid (HQ.out.below hb)
              clear hb
              go_wp2_with fail
              go_ret
              exact ⟨rfl, HQ.out.bel⟩
          · have HSG := Lib.hid (signalV hk wv)
            clear hk
            go_wp2_with fail
            refine HSG.out.mono ?_; rintro e wk ⟨rfl, rfl⟩
            have z3 : (((wv.alloc (.cells #[.string a.id, .int .i64 (u.x0 : Int), .int .i64 (u.x1 : Int), .int .i64 (u.x2 : Int)] 33)).alloc (.cells #[.string b.id, .int .i64 (v.x0 : Int), .int .i64 (v.x1 : Int), .int .i64 (v.x2 : Int)] 33)).alloc (.cells #[.string a.id, .int .i64 (u.x0 : Int), .int .i64 (u.x1 : Int), .int .i64 (u.x2 : Int), .string b.id, .int .i64 (v.x0 : Int), .int .i64 (v.x1 : Int), .int .i64 (v.x2 : Int)] 33)).heap.size = wv.heap.size + 1 + 1 + 1 := by simp
            have W4 := Lib.hid ((W2.out.alloc (.cells #[.string a.id, .int .i64 (u.x0 : Int), .int .i64 (u.x1 : Int), .int .i64 (u.x2 : Int), .string b.id, .int .i64 (v.x0 : Int), .int .i64 (v.x1 : Int), .int .i64 (v.x2 : Int)] 33)).alloc (.cells #[.int .i64 0, .int .i64 0, .int .i64 0, .int .i64 0, .slice (some ⟨wv.heap.size + 1 + 1, 0, none⟩) 2 2] 36))
            have row4 := (Blk.new ((wv.alloc (.cells #[.string a.id, .int .i64 (u.x0 : Int), .int .i64 (u.x1 : Int), .int .i64 (u.x2 : Int)] 33)).alloc (.cells #[.string b.id, .int .i64 (v.x0 : Int), .int .i64 (v.x1 : Int), .int .i64 (v.x2 : Int)] 33)) 33 #[.string a.id, .int .i64 (u.x0 : Int), .int .i64 (u.x1 : Int), .int .i64 (u.x2 : Int), .string b.id, .int .i64 (v.x0 : Int), .int .i64 (v.x1 : Int), .int .i64 (v.x2 : Int)]).alloc (.cells #[.int .i64 0, .int .i64 0, .int .i64 0, .int .i64 0, .slice (some ⟨wv.heap.size + 1 + 1, 0, none⟩) 2 2] 36)
            rw [z2] at row4
            have sm4 := Blk.new (((wv.alloc (.cells #[.string a.id, .int .i64 (u.x0 : Int), .int .i64 (u.x1 : Int), .int .i64 (u.x2 : Int)] 33)).alloc (.cells #[.string b.id, .int .i64 (v.x0 : Int), .int .i64 (v.x1 : Int), .int .i64 (v.x2 : Int)] 33)).alloc (.cells #[.string a.id, .int .i64 (u.x0 : Int), .int .i64 (u.x1 : Int), .int .i64 (u.x2 : Int), .string b.id, .int .i64 (v.x0 : Int), .int .i64 (v.x1 : Int), .int .i64 (v.x2 : Int)] 33)) 36 #[.int .i64 0, .int .i64 0, .int .i64 0, .int .i64 0, .slice (some ⟨wv.heap.size + 1 + 1, 0, none⟩) 2 2]
            rw [z3] at sm4
            have bx4 := (BX2.out.alloc (.cells #[.string a.id, .int .i64 (u.x0 : Int), .int .i64 (u.x1 : Int), .int .i64 (u.x2 : Int), .string b.id, .int .i64 (v.x0 : Int), .int .i64 (v.x1 : Int), .int .i64 (v.x2 : Int)] 33)).alloc (.cells #[.int .i64 0, .int .i64 0, .int .i64 0, .int .i64 0, .slice (some ⟨wv.heap.size + 1 + 1, 0, none⟩) 2 2] 36)
            have by4 := (BY2.out.alloc (.cells #[.string a.id, .int .i64 (u.x0 : Int), .int .i64 (u.x1 : Int), .int .i64 (u.x2 : Int), .string b.id, .int .i64 (v.x0 : Int), .int .i64 (v.x1 : Int), .int .i64 (v.x2 : Int)] 33)).alloc (.cells #[.int .i64 0, .int .i64 0, .int .i64 0, .int .i64 0, .slice (some ⟨wv.heap.size + 1 + 1, 0, none⟩) 2 2] 36)
            have cpa4 := W4.out.pa.cell
            have cpb4 := W4.out.pb.cell
            have csm4 := sm4.cell
            have ROW := Lib.hid row4
            have BX := Lib.hid bx4
            have BY := Lib.hid by4
            have SM := Lib.hid sm4
            clear row4 sm4
            have cx4 := bx4.cell
            have cy4 := by4.cell
            have z4 : ((((wv.alloc (.cells #[.string a.id, .int .i64 (u.x0 : Int), .int .i64 (u.x1 : Int), .int .i64 (u.x2 : Int)] 33)).alloc (.cells #[.string b.id, .int .i64 (v.x0 : Int), .int .i64 (v.x1 : Int), .int .i64 (v.x2 : Int)] 33)).alloc (.cells #[.string a.id, .int .i64 (u.x0 : Int), .int .i64 (u.x1 : Int), .int .i64 (u.x2 : Int), .string b.id, .int .i64 (v.x0 : Int), .int .i64 (v.x1 : Int), .int .i64 (v.x2 : Int)] 33)).alloc (.cells #[.int .i64 0, .int .i64 0, .int .i64 0, .int .i64 0, .slice (some ⟨wv.heap.size + 1 + 1, 0, none⟩) 2 2] 36)).heap.size = wv.heap.size + 1 + 1 + 1 + 1 := by simp
            have row5 := Blk.new ((((wv.alloc (.cells #[.string a.id, .int .i64 (u.x0 : Int), .int .i64 (u.x1 : Int), .int .i64 (u.x2 : Int)] 33)).alloc (.cells #[.string b.id, .int .i64 (v.x0 : Int), .int .i64 (v.x1 : Int), .int .i64 (v.x2 : Int)] 33)).alloc (.cells #[.string a.id, .int .i64 (u.x0 : Int), .int .i64 (u.x1 : Int), .int .i64 (u.x2 : Int), .string b.id, .int .i64 (v.x0 : Int), .int .i64 (v.x1 : Int), .int .i64 (v.x2 : Int)] 33)).alloc (.cells #[.int .i64 0, .int .i64 0, .int .i64 0, .int .i64 0, .slice (some ⟨wv.heap.size + 1 + 1, 0, none⟩) 2 2] 36)) 33 #[.string b.id, .int .i64 (v.x0 : Int), .int .i64 (v.x1 : Int), .int .i64 (v.x2 : Int), .string a.id, .int .i64 (u.x0 : Int), .int .i64 (u.x1 : Int), .int .i64 (u.x2 : Int)]
            rw [z4] at row5
            have ROW5 := Lib.hid row5
            have W5 := Lib.hid (W4.out.alloc (.cells #[.string b.id, .int .i64 (v.x0 : Int), .int .i64 (v.x1 : Int), .int .i64 (v.x2 : Int), .string a.id, .int .i64 (u.x0 : Int), .int .i64 (u.x1 : Int), .int .i64 (u.x2 : Int)] 33))
            have BX5 := Lib.hid (BX.out.alloc (.cells #[.string b.id, .int .i64 (v.x0 : Int), .int .i64 (v.x1 : Int), .int .i64 (v.x2 : Int), .string a.id, .int .i64 (u.x0 : Int), .int .i64 (u.x1 : Int), .int .i64 (u.x2 : Int)] 33))
            have BY5 := Lib.hid (BY.out.alloc (.cells #[.string b.id, .int .i64 (v.x0 : Int), .int .i64 (v.x1 : Int), .int .i64 (v.x2 : Int), .string a.id, .int .i64 (u.x0 : Int), .int .i64 (u.x1 : Int), .int .i64 (u.x2 : Int)] 33))
            have SM5 := Lib.hid (SM.out.alloc (.cells #[.string b.id, .int .i64 (v.x0 : Int), .int .i64 (v.x1 : Int), .int .i64 (v.x2 : Int), .string a.id, .int .i64 (u.x0 : Int), .int .i64 (u.x1 : Int), .int .i64 (u.x2 : Int)] 33))
            clear bx4 by4 row5 z4
            go_wp2_with (refine wl_store_blk rfl 36 (.tmp 16) (.tmp 85) rfl (wv.heap.size + 1 + 1 + 1) 36 #[.int .i64 0, .int .i64 0, .int .i64 0, .int .i64 0, .slice (some ⟨wv.heap.size + 1 + 1, 0, none⟩) 2 2] #[.int .i64 0, .int .i64 0, .int .i64 0, .int .i64 0, .slice (some ⟨wv.heap.size + 1 + 1 + 1 + 1, 0, none⟩) 2 2] rfl rfl SM5.out rfl szSm (by simp [Value.oneCell']) ?_; intro w6 hR6 hg6 hs6; have W6 := Lib.hid (W5.out.grown hg6 (by have := HLT.out; omega)); have ROW6 := Lib.hid (ROW5.out.grown hg6 (by intro e; injection e with e; omega)); have BX6 := Lib.hid (BX5.out.grown hg6 (by intro e; injection e with e; omega)); have BY6 := Lib.hid (BY5.out.grown hg6 (by intro e; injection e with e; omega)); have cpa6 := W6.out.pa.cell; have cpb6 := W6.out.pb.cell; have csm6 := hR6.cell; have SM6 := Lib.hid hR6; clear hR6 hg6 hs6)
            have HQ := W6
            have ROW := ROW6
            have BX := BX6
            have BY := BY6
            have SM := SM6
            have HTW : Hid (Two a b (⟨a.id, (u.x0 : Int), (u.x1 : Int), (u.x2 : Int)⟩ : Us) (⟨b.id, (v.x0 : Int), (v.x1 : Int), (v.x2 : Int)⟩ : Us) [(⟨b.id, (v.x0 : Int), (v.x1 : Int), (v.x2 : Int)⟩ : Us), (⟨a.id, (u.x0 : Int), (u.x1 : Int), (u.x2 : Int)⟩ : Us)]) := Two.ba HBL.out rfl rfl
            have HEX := Lib.hid (exokT (k := 2) HTW.out HAR.out HBR.out HSX.out HSY.out)
            cases hv1 : aheadB 2 a b [(⟨b.id, (v.x0 : Int), (v.x1 : Int), (v.x2 : Int)⟩ : Us), (⟨a.id, (u.x0 : Int), (u.x1 : Int), (u.x2 : Int)⟩ : Us)]
            · have Hv1 := Lib.hid hv1
              have Hv2 := Lib.hid (ahead_total HNE.out hv1)
              clear hv1
              refine (aheadM (k := 2) (by decide) HTW.out Hv1.out ROW.out rfl HEX.out.1 HEX.out.2).mono ?_; rintro e w7 ⟨rfl, hb⟩
              have HQ := Lib.hid (HQ.out.below hb)
              have ROW := Lib.hid (ROW.out.belowAll hb)
              have SM := Lib.hid (SM.out.belowAll hb)
              have cpa7 := HQ.out.pa.cell
              have cpb7 := HQ.out.pb.cell
              have csm7 := SM.out.cell
              clear hb
              go_wp2_with fail
              refine (aheadM (k := 2) (by decide) HTW.out Hv2.out ROW.out rfl HEX.out.2 HEX.out.1).mono ?_; rintro e w8 ⟨rfl, hb⟩
              have HQ := Lib.hid (HQ.out.below hb)
              clear hb
              go_wp2_with fail
              go_ret
              exact ⟨rfl, HQ.out.bel⟩
            · have Hv1 := Lib.hid hv1
              clear hv1
              refine (aheadM (k := 2) (by decide) HTW.out Hv1.out ROW.out rfl HEX.out.1 HEX.out.2).mono ?_; rintro e w7 ⟨rfl, hb⟩
              have HQ := Lib.hid (HQ.out.below hb)
              have BX := Lib.hid (BX.out.belowAll hb)
              have BY := Lib.hid (BY.out.belowAll hb)
              clear hb
              have hws : IntKind.i64.wrap ((u.x2 : Int) + (m : Int)) = (u.x2 : Int) + (m : Int) := by rw [IntKind.wrap_i64]; have := HU.out.1.h2; omega
              have cx7 := BX.out.cell
              have fx7 := BX.out.frozen 3
              have z8 : (w7.setCell ⟨wv.heap.size, 3, none⟩ (.int .i64 ((u.x2 : Int) + (m : Int)))).heap.size = w7.heap.size := by simp [World.setCell]
              have z9 : ((w7.setCell ⟨wv.heap.size, 3, none⟩ (.int .i64 ((u.x2 : Int) + (m : Int)))).alloc (.cells #[.string a.id, .int .i64 (u.x0 : Int), .int .i64 (u.x1 : Int), .int .i64 ((u.x2 : Int) + (m : Int)), .string b.id, .int .i64 (v.x0 : Int), .int .i64 (v.x1 : Int), .int .i64 (v.x2 : Int)] 33)).heap.size = w7.heap.size + 1 := by simp [World.setCell]
              have bx8 : Blk (w7.setCell ⟨wv.heap.size, 3, none⟩ (.int .i64 ((u.x2 : Int) + (m : Int)))) (wv.heap.size) 33 #[.string a.id, .int .i64 (u.x0 : Int), .int .i64 (u.x1 : Int), .int .i64 ((u.x2 : Int) + (m : Int))] := by
                have h := BX.out.set_ 3 (.int .i64 ((u.x2 : Int) + (m : Int)))
                simpa using h
              have BY8 := Lib.hid (BY.out.far (p := ⟨wv.heap.size, 3, none⟩) (by show wv.heap.size + 1 ≠ wv.heap.size; omega) (.int .i64 ((u.x2 : Int) + (m : Int))))
              have W8 := Lib.hid (HQ.out.far (p := ⟨wv.heap.size, 3, none⟩) (by have := HLT.out; show _ < wv.heap.size; omega) (.int .i64 ((u.x2 : Int) + (m : Int))))
              have cx8 := bx8.cell
              have cy8 := BY8.out.cell
              have BX8 := Lib.hid bx8
              have W10 := Lib.hid ((W8.out.alloc (.cells #[.string a.id, .int .i64 (u.x0 : Int), .int .i64 (u.x1 : Int), .int .i64 ((u.x2 : Int) + (m : Int)), .string b.id, .int .i64 (v.x0 : Int), .int .i64 (v.x1 : Int), .int .i64 (v.x2 : Int)] 33)).alloc (.cells #[.int .i64 0, .int .i64 0, .int .i64 0, .int .i64 0, .slice (some ⟨w7.heap.size, 0, none⟩) 2 2] 36))
              have row10 := (Blk.new (w7.setCell ⟨wv.heap.size, 3, none⟩ (.int .i64 ((u.x2 : Int) + (m : Int)))) 33 #[.string a.id, .int .i64 (u.x0 : Int), .int .i64 (u.x1 : Int), .int .i64 ((u.x2 : Int) + (m : Int)), .string b.id, .int .i64 (v.x0 : Int), .int .i64 (v.x1 : Int), .int .i64 (v.x2 : Int)]).alloc (.cells #[.int .i64 0, .int .i64 0, .int .i64 0, .int .i64 0, .slice (some ⟨w7.heap.size, 0, none⟩) 2 2] 36)
              rw [z8] at row10
              have sm10 := Blk.new ((w7.setCell ⟨wv.heap.size, 3, none⟩ (.int .i64 ((u.x2 : Int) + (m : Int)))).alloc (.cells #[.string a.id, .int .i64 (u.x0 : Int), .int .i64 (u.x1 : Int), .int .i64 ((u.x2 : Int) + (m : Int)), .string b.id, .int .i64 (v.x0 : Int), .int .i64 (v.x1 : Int), .int .i64 (v.x2 : Int)] 33)) 36 #[.int .i64 0, .int .i64 0, .int .i64 0, .int .i64 0, .slice (some ⟨w7.heap.size, 0, none⟩) 2 2]
              rw [z9] at sm10
              have bx10 := (BX8.out.alloc (.cells #[.string a.id, .int .i64 (u.x0 : Int), .int .i64 (u.x1 : Int), .int .i64 ((u.x2 : Int) + (m : Int)), .string b.id, .int .i64 (v.x0 : Int), .int .i64 (v.x1 : Int), .int .i64 (v.x2 : Int)] 33)).alloc (.cells #[.int .i64 0, .int .i64 0, .int .i64 0, .int .i64 0, .slice (some ⟨w7.heap.size, 0, none⟩) 2 2] 36)
              have by10 := (BY8.out.alloc (.cells #[.string a.id, .int .i64 (u.x0 : Int), .int .i64 (u.x1 : Int), .int .i64 ((u.x2 : Int) + (m : Int)), .string b.id, .int .i64 (v.x0 : Int), .int .i64 (v.x1 : Int), .int .i64 (v.x2 : Int)] 33)).alloc (.cells #[.int .i64 0, .int .i64 0, .int .i64 0, .int .i64 0, .slice (some ⟨w7.heap.size, 0, none⟩) 2 2] 36)
              have cpa10 := W10.out.pa.cell
              have cpb10 := W10.out.pb.cell
              have csm10 := sm10.cell
              have ROW10 := Lib.hid row10
              have SM10 := Lib.hid sm10
              have BX10 := Lib.hid bx10
              have BY10 := Lib.hid by10
              have HLT7 := Lib.hid HQ.out.lt
              have HNlt : Hid (wv.heap.size + 1 < w7.heap.size) := BY.out.lt
              have HSXn : Hid (⟨a.id, (u.x0 : Int), (u.x1 : Int), ((u.x2 : Int) + (m : Int))⟩ : Us).Sm := ⟨by simp only; omega, by simp only; omega, by simp only; omega, by have := HU.out.1.h0; simp only; omega, by have := HU.out.1.h1; simp only; omega, by have := HU.out.1.h2; simp only; omega⟩
              clear bx8 row10 sm10
              have cx10 := bx10.cell
              have cy10 := by10.cell
              have z10 : (((w7.setCell ⟨wv.heap.size, 3, none⟩ (.int .i64 ((u.x2 : Int) + (m : Int)))).alloc (.cells #[.string a.id, .int .i64 (u.x0 : Int), .int .i64 (u.x1 : Int), .int .i64 ((u.x2 : Int) + (m : Int)), .string b.id, .int .i64 (v.x0 : Int), .int .i64 (v.x1 : Int), .int .i64 (v.x2 : Int)] 33)).alloc (.cells #[.int .i64 0, .int .i64 0, .int .i64 0, .int .i64 0, .slice (some ⟨w7.heap.size, 0, none⟩) 2 2] 36)).heap.size = w7.heap.size + 1 + 1 := by simp [World.setCell]
              have row11 := Blk.new (((w7.setCell ⟨wv.heap.size, 3, none⟩ (.int .i64 ((u.x2 : Int) + (m : Int)))).alloc (.cells #[.string a.id, .int .i64 (u.x0 : Int), .int .i64 (u.x1 : Int), .int .i64 ((u.x2 : Int) + (m : Int)), .string b.id, .int .i64 (v.x0 : Int), .int .i64 (v.x1 : Int), .int .i64 (v.x2 : Int)] 33)).alloc (.cells #[.int .i64 0, .int .i64 0, .int .i64 0, .int .i64 0, .slice (some ⟨w7.heap.size, 0, none⟩) 2 2] 36)) 33 #[.string b.id, .int .i64 (v.x0 : Int), .int .i64 (v.x1 : Int), .int .i64 (v.x2 : Int), .string a.id, .int .i64 (u.x0 : Int), .int .i64 (u.x1 : Int), .int .i64 ((u.x2 : Int) + (m : Int))]
              rw [z10] at row11
              have ROW11 := Lib.hid row11
              have W11 := Lib.hid (W10.out.alloc (.cells #[.string b.id, .int .i64 (v.x0 : Int), .int .i64 (v.x1 : Int), .int .i64 (v.x2 : Int), .string a.id, .int .i64 (u.x0 : Int), .int .i64 (u.x1 : Int), .int .i64 ((u.x2 : Int) + (m : Int))] 33))
              have SM11 := Lib.hid (SM10.out.alloc (.cells #[.string b.id, .int .i64 (v.x0 : Int), .int .i64 (v.x1 : Int), .int .i64 (v.x2 : Int), .string a.id, .int .i64 (u.x0 : Int), .int .i64 (u.x1 : Int), .int .i64 ((u.x2 : Int) + (m : Int))] 33))
              clear bx10 by10 row11 z10
              go_wp2_with (refine wl_store_blk rfl 36 (.tmp 17) (.tmp 119) rfl (w7.heap.size + 1) 36 #[.int .i64 0, .int .i64 0, .int .i64 0, .int .i64 0, .slice (some ⟨w7.heap.size, 0, none⟩) 2 2] #[.int .i64 0, .int .i64 0, .int .i64 0, .int .i64 0, .slice (some ⟨w7.heap.size + 1 + 1, 0, none⟩) 2 2] rfl rfl SM11.out rfl szSm (by simp [Value.oneCell']) ?_; intro w12 hR12 hg12 hs12; have W12 := Lib.hid (W11.out.grown hg12 (by have := HLT7.out; omega)); have ROW12 := Lib.hid (ROW11.out.grown hg12 (by intro e; injection e with e; omega)); have cpa12 := W12.out.pa.cell; have cpb12 := W12.out.pb.cell; have csm12 := hR12.cell; clear hR12 hg12 hs12)
              have HQ := W12
              have ROW := ROW12
              have HTN : Hid (Two a b (⟨a.id, (u.x0 : Int), (u.x1 : Int), ((u.x2 : Int) + (m : Int))⟩ : Us) (⟨b.id, (v.x0 : Int), (v.x1 : Int), (v.x2 : Int)⟩ : Us) [(⟨b.id, (v.x0 : Int), (v.x1 : Int), (v.x2 : Int)⟩ : Us), (⟨a.id, (u.x0 : Int), (u.x1 : Int), ((u.x2 : Int) + (m : Int))⟩ : Us)]) := Two.ba HBL.out rfl rfl
              have HEN := Lib.hid (exokT (k := 2) HTN.out HAR.out HBR.out HSXn.out HSY.out)
              have Hv3 : Hid (aheadB 2 a b [(⟨b.id, (v.x0 : Int), (v.x1 : Int), (v.x2 : Int)⟩ : Us), (⟨a.id, (u.x0 : Int), (u.x1 : Int), ((u.x2 : Int) + (m : Int))⟩ : Us)] = true) := ahead_more (l := [(⟨b.id, (v.x0 : Int), (v.x1 : Int), (v.x2 : Int)⟩ : Us), (⟨a.id, (u.x0 : Int), (u.x1 : Int), (u.x2 : Int)⟩ : Us)]) (by rw [HTW.out.exA, HTN.out.exA]; simp only [amt]; simp; omega) (by rw [HTW.out.exB, HTN.out.exB]) Hv1.out
              refine (aheadM (k := 2) (by decide) HTN.out Hv3.out ROW.out rfl HEN.out.1 HEN.out.2).mono ?_; rintro e w13 ⟨rfl, hb⟩
              have HQ := Lib.hid (HQ.out.below hb)
              clear hb
              go_wp2_with fail
              go_ret
              exact ⟨rfl, HQ.out.bel⟩
end Go.Proofs.Ytlnpmdchhmbblaa
