/- bilgelaw23.AdmitErrors: a pod that isn't right is told so first, whatever the table; one whose Id is there is told that, though the table is full; else a full table bars all, critical ones too. -/
import Derived.Test.YtlhmhcidknadmaaDoorASame
import Derived.Test.YtlhmhcidknadmaaDoorStrB
namespace Go.Proofs.YtlhmhcidknadmaaDoor
open Go.RowKit

structure EB (a b c : Bool) (p : Pd) (w W : World) : Prop where
  pb : Blk W (w.heap.size) 29 #[.string p.id, .int .i64 p.prio, .bool p.crit, .int .i64 p.q0, .int .i64 p.q1, .int .i64 p.q2, .int .i64 p.l0, .int .i64 p.l1, .int .i64 p.l2, .string p.image, .int .i64 p.size]
  on : Blk W (w.heap.size + 1) 27 #[.bool a, .bool b, .bool c]
  bel : Below w.heap.size w W
theorem EB.below {a b c : Bool} {p : Pd} {w W W' : World} (h : EB a b c p w W) (hb : Below W.heap.size W W') : EB a b c p w W' := ⟨h.pb.belowAll hb, h.on.belowAll hb, h.bel.trans (hb.mono h.bel.size)⟩
theorem EB.alloc {a b c : Bool} {p : Pd} {w W : World} (h : EB a b c p w W) (o : Obj) : EB a b c p w (W.alloc o) := ⟨h.pb.alloc o, h.on.alloc o, h.bel.alloc h.bel.size o⟩
theorem EB.drew {a b c : Bool} {p : Pd} {w W : World} (h : EB a b c p w W) : EB a b c p w W.drew := ⟨h.pb.drew, h.on.drew, h.bel.drew⟩
theorem EB.new (a b c : Bool) (p : Pd) (w : World) : EB a b c p w ((w.alloc (.cells #[.string p.id, .int .i64 p.prio, .bool p.crit, .int .i64 p.q0, .int .i64 p.q1, .int .i64 p.q2, .int .i64 p.l0, .int .i64 p.l1, .int .i64 p.l2, .string p.image, .int .i64 p.size] 29)).alloc (.cells #[.bool a, .bool b, .bool c] 27)) := by
  have z1 : (w.alloc (.cells #[.string p.id, .int .i64 p.prio, .bool p.crit, .int .i64 p.q0, .int .i64 p.q1, .int .i64 p.q2, .int .i64 p.l0, .int .i64 p.l1, .int .i64 p.l2, .string p.image, .int .i64 p.size] 29)).heap.size = w.heap.size + 1 := by simp
  have b0 := Blk.new w 29 #[.string p.id, .int .i64 p.prio, .bool p.crit, .int .i64 p.q0, .int .i64 p.q1, .int .i64 p.q2, .int .i64 p.l0, .int .i64 p.l1, .int .i64 p.l2, .string p.image, .int .i64 p.size]
  have b1 := Blk.new (w.alloc (.cells #[.string p.id, .int .i64 p.prio, .bool p.crit, .int .i64 p.q0, .int .i64 p.q1, .int .i64 p.q2, .int .i64 p.l0, .int .i64 p.l1, .int .i64 p.l2, .string p.image, .int .i64 p.size] 29)) 27 #[.bool a, .bool b, .bool c]
  rw [z1] at b1
  have bel : Below w.heap.size w ((w.alloc (.cells #[.string p.id, .int .i64 p.prio, .bool p.crit, .int .i64 p.q0, .int .i64 p.q1, .int .i64 p.q2, .int .i64 p.l0, .int .i64 p.l1, .int .i64 p.l2, .string p.image, .int .i64 p.size] 29)).alloc (.cells #[.bool a, .bool b, .bool c] 27)) := ((Below.refl w.heap.size w).alloc (Nat.le_refl _) _).alloc (by rw [z1]; omega) _
  exact ⟨(b0.alloc _), b1, bel⟩

theorem ebCells {a b c : Bool} {p : Pd} {w W : World} (h : EB a b c p w W) : W.cell? ⟨w.heap.size + 1, 0, none⟩ = some (.bool a) ∧ W.cell? ⟨w.heap.size + 1, 1, none⟩ = some (.bool b) ∧ W.cell? ⟨w.heap.size + 1, 2, none⟩ = some (.bool c) ∧ W.cell? ⟨w.heap.size, 0, none⟩ = some (.string p.id) ∧ W.cell? ⟨w.heap.size, 1, none⟩ = some (.int .i64 p.prio) ∧ W.cell? ⟨w.heap.size, 2, none⟩ = some (.bool p.crit) ∧ W.cell? ⟨w.heap.size, 3, none⟩ = some (.int .i64 p.q0) ∧ W.cell? ⟨w.heap.size, 4, none⟩ = some (.int .i64 p.q1) ∧ W.cell? ⟨w.heap.size, 5, none⟩ = some (.int .i64 p.q2) ∧ W.cell? ⟨w.heap.size, 6, none⟩ = some (.int .i64 p.l0) ∧ W.cell? ⟨w.heap.size, 7, none⟩ = some (.int .i64 p.l1) ∧ W.cell? ⟨w.heap.size, 8, none⟩ = some (.int .i64 p.l2) ∧ W.cell? ⟨w.heap.size, 9, none⟩ = some (.string p.image) ∧ W.cell? ⟨w.heap.size, 10, none⟩ = some (.int .i64 p.size) := by
  obtain ⟨x0, x1, x2, x3, x4, x5, x6, x7, x8, x9, x10⟩ := h.pb.pd
  exact ⟨h.on.cell 0, h.on.cell 1, h.on.cell 2, x0, x1, x2, x3, x4, x5, x6, x7, x8, x9, x10⟩
theorem EB.far {a b c : Bool} {p : Pd} {w W : World} (h : EB a b c p w W) {a' : Addr} (ha : w.heap.size + 1 < a'.block) (u : Value) : EB a b c p w (W.setCell a' u) := ⟨h.pb.far (by omega) u, h.on.far (by omega) u, h.bel.setCell (by omega) u⟩
theorem decideN {l : List En} {a b c : Bool} {p : Pd} {m : Nat} (hm2 : m = l.length) (A : Option Addr) (n : Nat) (w : World) (hr : Rds w encN A l) (hw : ∀ x ∈ l, x.pod.Wf) (hm : l.length ≤ 9223372036854775807) (hp : p.Wf) :
    Calls Tryd.prog 12 #[.agg #[.int .i64 100, .int .i64 50, .int .i64 10, .int .i64 9, .int .i64 9, .int .i64 9, .slice none 0 0, .int .i64 1, .int .i64 0, .int .i64 1, .int .i64 0], .slice A m n, .agg #[.bool a, .bool b, .bool c], .agg p.cells] w (GivesV fS.room p l a b c w) := by subst hm2; exact decide_any fS l a b c p A n w hr hw hm hp
theorem VerD.len64 {room : S3} {p : Pd} {l : List En} {a b c : Bool} {k s e : Int} {O : List ByteArray} (h : VerD room p l a b c k s O e) (hl : l.length ≤ 64) : O.length ≤ 64 := by
  rcases h with ⟨_, _, _, rfl, _⟩ | ⟨_, _, _, _, rfl, _⟩ | ⟨_, _, _, _, _, rfl, _⟩ | ⟨_, _, _, _, _, _, rfl, _⟩ | ⟨_, _, _, _, _, _, bb, h, _⟩
  all_goals first | (simp; done) | (have := h.len; rw [podsD_len] at this; omega)
def zEn (nm : ByteArray) (fv : Nat) : En := ⟨⟨nm, 0, false, 0, 0, 0, 0, 0, 0, ⟨#[120]⟩, 0⟩, 1 + (fv : Int)⟩
/-- a table of small entries -/
structure Tab (T : List En) (K : Nat) : Prop where
  len : T.length = K
  wf : ∀ x ∈ T, x.pod.Wf
theorem elemN : Elem Tryd.prog 26 51 12 112 := by
  obtain ⟨i, h1, h2, h3, h4⟩ := info_parts (show (Tryd.prog.info? 51).map (fun i => (i.zero, i.size, i.bytes)) = some (some (.agg #[.string ⟨#[]⟩, .int .i64 0, .bool false, .int .i64 0, .int .i64 0, .int .i64 0, .int .i64 0, .int .i64 0, .int .i64 0, .string ⟨#[]⟩, .int .i64 0, .int .i64 0]), 12, 112) by kernel_rfl)
  exact ⟨Tryd.underlying26, i, _, h1, h2, h3, h4, rfl⟩
theorem zEn_wf {nm : ByteArray} {fv : Nat} (h : nm.size ≤ 100) : (zEn nm fv).pod.Wf := by
  constructor <;> first | exact ⟨by simp [zEn], by simp [zEn]⟩ | (simp [zEn]; done) | (show nm.size ≤ _; omega) | (show (⟨#[120]⟩ : ByteArray).size ≤ _; decide)
theorem Tab.snoc {T : List En} {K fv : Nat} {nm : ByteArray} (h : Tab T K) (hn : nm.size ≤ 100) : Tab (T ++ [zEn nm fv]) (K + 1) :=
  ⟨by rw [List.length_append, h.len]; rfl, fun x hx => by
    rcases List.mem_append.1 hx with h1 | h1
    · exact h.wf x h1
    · rw [List.mem_singleton.1 h1]; exact zEn_wf hn⟩
theorem VerD.errs {room : S3} {p : Pd} {l : List En} {a b c : Bool} {k s e : Int} {O : List ByteArray} (h : VerD room p l a b c k s O e) :
    (p.right = false → k = 0 ∧ s = 0 ∧ O = [] ∧ e = 1) ∧ (p.right = true → hasE l p.id = true → k = 0 ∧ s = 0 ∧ O = [] ∧ e = 5) ∧ (p.right = true → hasE l p.id = false → 64 ≤ l.length → k = 0 ∧ s = 0 ∧ O = [] ∧ e = 6) ∧ (p.right = true → hasE l p.id = false → l.length < 64 → e = 0 ∧ 1 ≤ k ∧ k ≤ 4) := by
  rcases h with ⟨h1, h2⟩ | ⟨h1, h2, h3⟩ | ⟨h1, h2, h3, h4⟩ | ⟨h1, h2, h3, _, h4, _, _, h5⟩ | ⟨h1, h2, h3, _, _, h4, bb, _, h5⟩
  · exact ⟨fun _ => h2, fun h => (by rw [h1] at h; cases h), fun h => (by rw [h1] at h; cases h), fun h => (by rw [h1] at h; cases h)⟩
  · exact ⟨fun h => (by rw [h1] at h; cases h), fun _ _ => h3, fun _ h => (by rw [h2] at h; cases h), fun _ h => (by rw [h2] at h; cases h)⟩
  · exact ⟨fun h => (by rw [h1] at h; cases h), fun _ h => (by rw [h2] at h; cases h), fun _ _ _ => h4, fun _ _ h => by omega⟩
  · exact ⟨fun h => (by rw [h1] at h; cases h), fun _ h => (by rw [h2] at h; cases h), fun _ _ h => by omega, fun _ _ _ => ⟨h5, by omega, by omega⟩⟩
  · refine ⟨fun h => (by rw [h1] at h; cases h), fun _ h => (by rw [h2] at h; cases h), fun _ _ h => by omega, fun _ _ _ => ⟨h4, ?_⟩⟩
    rw [h5]
    split
    · omega
    · split <;> omega
set_option maxRecDepth 100000 in
set_option maxHeartbeats 16000000 in
theorem admitErrors_any (p : Pd) (a b c : Bool) (n ph : Nat) (hn : n < 256) (hph : ph < 256) (w : World) (hp : p.Wf) :
    Calls Tryd.prog 6 #[.agg p.cells, .agg #[.bool a, .bool b, .bool c], .int .u8 n, .int .u8 ph] w fun e w' => e = .returned (.bool true) ∧ Below w.heap.size w w' := by
  have mixed : Tryd.prog.follows Departure.mixedOrders = true := by kernel_rfl
  have HQ := Lib.hid (EB.new a b c p w)
  have HPW := Lib.hid hp
  clear hp
  go_enter Tryd.func6, Tryd.ntmps6
  go_wp2_with fail
  refine (awake23_any _).mono ?_; rintro e w1 ⟨rfl, hb⟩
  have HQ := Lib.hid (HQ.out.below hb)
  clear hb
  have cp := HQ.out.pb.cell
  go_wp2_with fail
  obtain ⟨v3, hv3⟩ : ∃ v, p.small = v := ⟨_, rfl⟩
  have HSM := Lib.hid hv3
  clear hv3
  refine (smallV_any HSM.out _).mono ?_; rintro e w4 ⟨rfl, hb⟩
  have HQ := Lib.hid (HQ.out.below hb)
  clear hb cp
  cases v3
  · go_wp2_with fail
    refine (awake23_any _).mono ?_; rintro e w9 ⟨rfl, hb⟩
    have HQ := Lib.hid (HQ.out.below hb)
    clear hb
    go_wp2_with fail
    go_ret
    exact ⟨rfl, HQ.out.bel⟩
  obtain ⟨K, hK⟩ : ∃ K : Nat, n % 65 = K := ⟨_, rfl⟩
  have hK64 : K ≤ 64 := by omega
  have e1 : (n : Int).tmod 65 = (K : Int) := by rw [Int.tmod_eq_emod_of_nonneg (by omega)]; omega
  have e2 : IntKind.i64.wrap (n : Int) = (n : Int) := by rw [IntKind.wrap_i64]; omega
  obtain ⟨fv, hfv⟩ : ∃ f : Nat, ph % 3 = f := ⟨_, rfl⟩
  have hf2 : fv ≤ 2 := by omega
  have e3 : (ph : Int).tmod 3 = (fv : Int) := by rw [Int.tmod_eq_emod_of_nonneg (by omega)]; omega
  have e4 : IntKind.i64.wrap (ph : Int) = (ph : Int) := by rw [IntKind.wrap_i64]; omega
  clear hK hfv
  go_wp2_with fail
  go_loopw [9, 11] (fun st ii wr => ∃ (i : Nat) (T : List En) (A1 : Option Addr) (c1 : Nat), i ≤ K ∧ ii = .int .i64 i ∧ st = .slice A1 T.length c1 ∧ Tab T i ∧ Own wr w4.heap.size 51 encN (.slice A1 T.length c1) T ∧ Below w4.heap.size w4 wr) (fun _ ii _ => K - (intOf ii).toNat)
  case atStart => exact ⟨0, [], none, 0, by omega, rfl, rfl, ⟨rfl, fun x hx => by cases hx⟩, Own.nil_ _ _ _ _, Below.refl _ _⟩
  case round =>
    obtain ⟨i, T, AT, cT, hi, rfl, rfl, htab, ho, hbl⟩ := hrel
    have HT := Lib.hid htab
    have HP := Lib.hid (And.intro ho hbl)
    clear htab ho hbl
    by_cases hlt : i < K
    · have dk : decide ((i : Int) < (K : Int)) = true := decide_eq_true (by omega)
      obtain ⟨q, hq⟩ : ∃ q : Nat, i / 26 = q := ⟨_, rfl⟩
      obtain ⟨r, hr⟩ : ∃ q : Nat, i % 26 = q := ⟨_, rfl⟩
      have hq2 : q ≤ 2 := by omega
      have hr2 : r ≤ 25 := by omega
      have f1 : (i : Int).tdiv 26 = (q : Int) := by rw [Int.tdiv_eq_ediv_of_nonneg (by omega)]; omega
      have f2 : (i : Int).tmod 26 = (r : Int) := by rw [Int.tmod_eq_emod_of_nonneg (by omega)]; omega
      clear hq hr
      obtain ⟨x, hx⟩ : ∃ x : UInt8, x.toNat = 97 + q := ⟨UInt8.ofNat (97 + q), by simp; omega⟩
      obtain ⟨y, hy⟩ : ∃ y : UInt8, y.toNat = 97 + r := ⟨UInt8.ofNat (97 + r), by simp; omega⟩
      have f3 : IntKind.u8.wrap ((97 : Int) + (q : Int)) = (x.toNat : Int) := by unfold IntKind.wrap; simp [IntKind.bits, IntKind.signed]; omega
      have f4 : IntKind.u8.wrap ((97 : Int) + (r : Int)) = (y.toNat : Int) := by unfold IntKind.wrap; simp [IntKind.bits, IntKind.signed]; omega
      clear hx hy
      obtain ⟨nm0, hnm0⟩ : ∃ s : ByteArray, str [x, y] = s := ⟨_, rfl⟩
      have cv : (convert 49 9 (.slice (some ⟨wr.heap.size, 0, none⟩) 2 2)).run Tryd.prog (wr.alloc (.cells #[.int .u8 x.toNat, .int .u8 y.toNat] 5)) = .ok (.string nm0) (wr.alloc (.cells #[.int .u8 x.toNat, .int .u8 y.toNat] 5)) := by
        rw [← hnm0]
        exact run_strB _ _ [x, y] 2 (Rds.made wr encB [x, y] _ #[.int .u8 x.toNat, .int .u8 y.toNat] (0, 0) rfl)
      obtain ⟨nm, hnm⟩ : ∃ s : ByteArray, (⟨#[110]⟩ : ByteArray) ++ nm0 = s := ⟨_, rfl⟩
      have hns : nm.size ≤ 100 := by rw [← hnm, ← hnm0]; simp [ByteArray.size_append, str_size]; try decide
      have HSN := Lib.hid (HT.out.snoc (fv := fv) hns)
      have HLN := Lib.hid HT.out.len
      have hz0 : nm0.size = 2 := by rw [← hnm0]; rfl
      clear hnm0 hns
      have HB1 := Lib.hid (HP.out.2.alloc HP.out.2.size (.cells #[.int .u8 x.toNat, .int .u8 y.toNat] 5))
      go_wp2_with (at_builtin; refine wl_push elemN encN rfl (.tmp 32) (.tmp 50) rfl (zEn nm fv) #[.string nm, .int .i64 0, .bool false, .int .i64 0, .int .i64 0, .int .i64 0, .int .i64 0, .int .i64 0, .int .i64 0, .string ⟨#[120]⟩, .int .i64 0, .int .i64 ((1 : Int) + (fv : Int))] rfl w4.heap.size _ T rfl (HP.out.1.alloc _) rfl (by simp) HB1.out (by have := HLN.out; omega) (by have := HLN.out; omega) HB1.out.size ?_; intro A3 k3 w5 ho hb _; have HX3 := Lib.hid (And.intro ho hb); clear ho hb)
      go_roundw
      case rel => exact ⟨i + 1, T ++ [zEn nm fv], A3, k3, by omega, by go_num, by rw [List.length_append]; rfl, HSN.out, by exact own_len1 HX3.out.1, HX3.out.2⟩
      case measure => simp [intOf]; omega
    · obtain rfl : i = K := by omega
      have dk : decide ((i : Int) < (i : Int)) = false := by simp
      have HQ := Lib.hid (HQ.out.below HP.out.2)
      have HTL := Lib.hid HT.out.len
      have HTX := Lib.hid HP.out.1.toRds
      obtain ⟨K2, hK2⟩ : ∃ k, k = T.length := ⟨_, rfl⟩
      rw [← hK2]
      obtain rfl : K2 = i := by rw [hK2]; exact HTL.out
      clear hK2
      go_wp2_with fail
      go_loopw [12, 13] (fun th ii wz => ∃ (i : Nat) (v : Bool), i ≤ K2 ∧ ii = .int .i64 i ∧ th = .bool v ∧ hasE (T.take i) p.id = v ∧ Below wr.heap.size wr wz) (fun _ ii _ => K2 - (intOf ii).toNat)
      case atStart => exact ⟨0, false, by omega, rfl, rfl, rfl, Below.refl _ _⟩
      case round =>
        obtain ⟨i, v, hi, rfl, rfl, hv, hbl⟩ := hrel
        have HV := Lib.hid hv
        have HBL := Lib.hid hbl
        clear hv hbl
        by_cases hlt : i < K2
        · have dk : decide ((i : Int) < (K2 : Int)) = true := decide_eq_true (by omega)
          have dk2 : (i : Int) < (K2 : Int) := by omega
          have hiT : i < T.length := by rw [HTL.out]; exact hlt
          obtain ⟨b0, off, hA, _⟩ := HTX.out.en hiT
          obtain rfl : AT = some ⟨b0, off, none⟩ := hA
          have HXI := Lib.hid (List.getElem?_eq_getElem hiT)
          have HNXT := Lib.hid (hasE_next T p.id i hiT)
          generalize T[i] = x at *
          clear hiT
          cases v
          · cases he : (x.pod.id.toList == p.id.toList)
            · have HEQ := Lib.hid he
              have HNX := Lib.hid (show hasE (T.take (i + 1)) p.id = false by rw [HNXT.out, HV.out, he]; rfl)
              clear he
              go_wp2_with fail
              have HBL := Lib.hid HBL.out.drew
              have HQ2 := Lib.hid (HQ.out.below HBL.out)
              refine wp_region_held_drew (S := (fun w' => w'.cell? ⟨b0, off + i * 12, none⟩ = some (.string x.pod.id) ∧ w'.cell? ⟨w.heap.size, 0, none⟩ = some (.string p.id))) (by kernel_rfl) (⟨(HTX.out.enAt HBL.out HXI.out).1, HQ2.out.pb.cell 0⟩) (fun hHeld => ?_)
              refine held_take 0 57 (.bool false) rfl rfl (by kernel_rfl) (by kernel_rfl) (by kernel_rfl) (fun _ _ _ h => h) (by rfl) (by intro w' hSw; (try dsimp only at hSw); go_simp; (try (with_reducible rfl))) (by assumption) ?_
              simp only [Act.put, List.setIfInBounds_toArray, List.set_cons_zero, List.set_cons_succ]
              refine held_take 1 58 (.bool false) rfl rfl (by kernel_rfl) (by kernel_rfl) (by kernel_rfl) (fun _ _ _ h => h) (by rfl) (by intro w' hSw; (try dsimp only at hSw); go_simp; (try (with_reducible rfl))) (by assumption) ?_
              simp only [Act.put, List.setIfInBounds_toArray, List.set_cons_zero, List.set_cons_succ]
              refine held_take 2 59 (.slice (some ⟨b0, off, none⟩) K2 cT) rfl rfl (by kernel_rfl) (by kernel_rfl) (by kernel_rfl) (fun _ _ _ h => h) (by rfl) (by intro w' hSw; (try dsimp only at hSw); go_simp; (try (with_reducible rfl))) (by assumption) ?_
              simp only [Act.put, List.setIfInBounds_toArray, List.set_cons_zero, List.set_cons_succ]
              refine held_take 3 60 (.int .i64 i) rfl rfl (by kernel_rfl) (by kernel_rfl) (by kernel_rfl) (fun _ _ _ h => h) (by rfl) (by intro w' hSw; (try dsimp only at hSw); go_simp; (try (with_reducible rfl))) (by assumption) ?_
              simp only [Act.put, List.setIfInBounds_toArray, List.set_cons_zero, List.set_cons_succ]
              refine held_take 4 61 (.pointer (some ⟨b0, off + i * 12, none⟩)) rfl rfl (by kernel_rfl) (by kernel_rfl) (by kernel_rfl) (fun _ _ _ h => h) (by rfl) (by intro w' hSw; (try dsimp only at hSw); go_simp; (try (with_reducible rfl))) (by assumption) ?_
              simp only [Act.put, List.setIfInBounds_toArray, List.set_cons_zero, List.set_cons_succ]
              refine held_take 5 62 (.pointer (some ⟨b0, off + i * 12, none⟩)) rfl rfl (by kernel_rfl) (by kernel_rfl) (by kernel_rfl) (fun _ _ _ h => h) (by rfl) (by intro w' hSw; (try dsimp only at hSw); go_simp; (try (with_reducible rfl))) (by assumption) ?_
              simp only [Act.put, List.setIfInBounds_toArray, List.set_cons_zero, List.set_cons_succ]
              refine held_take 6 63 (.pointer (some ⟨b0, off + i * 12, none⟩)) rfl rfl (by kernel_rfl) (by kernel_rfl) (by kernel_rfl) (fun _ _ _ h => h) (by rfl) (by intro w' hSw; (try dsimp only at hSw); go_simp; (try (with_reducible rfl))) (by assumption) ?_
              simp only [Act.put, List.setIfInBounds_toArray, List.set_cons_zero, List.set_cons_succ]
              refine held_take 7 64 (.string x.pod.id) rfl rfl (by kernel_rfl) (by kernel_rfl) (by kernel_rfl) (fun _ _ _ h => h) (by rfl) (by intro w' hSw; (try dsimp only at hSw); go_simp; (try (with_reducible rfl))) (by assumption) ?_
              simp only [Act.put, List.setIfInBounds_toArray, List.set_cons_zero, List.set_cons_succ]
              refine held_take 8 65 (.pointer (some ⟨w.heap.size, 0, none⟩)) rfl rfl (by kernel_rfl) (by kernel_rfl) (by kernel_rfl) (fun _ _ _ h => h) (by rfl) (by intro w' hSw; (try dsimp only at hSw); go_simp; (try (with_reducible rfl))) (by assumption) ?_
              simp only [Act.put, List.setIfInBounds_toArray, List.set_cons_zero, List.set_cons_succ]
              refine held_take 9 66 (.string p.id) rfl rfl (by kernel_rfl) (by kernel_rfl) (by kernel_rfl) (fun _ _ _ h => h) (by rfl) (by intro w' hSw; (try dsimp only at hSw); go_simp; (try (with_reducible rfl))) (by assumption) ?_
              simp only [Act.put, List.setIfInBounds_toArray, List.set_cons_zero, List.set_cons_succ]
              refine held_take 10 67 (.bool false) rfl rfl (by kernel_rfl) (by kernel_rfl) (by kernel_rfl) (fun _ _ _ h => h) (by rfl) (by intro w' hSw; (try dsimp only at hSw); go_simp; (first | done | with_reducible rfl | (have hh := HEQ.out; simpa using hh))) (by assumption) ?_
              simp only [Act.put, List.setIfInBounds_toArray, List.set_cons_zero, List.set_cons_succ]
              refine held_take 11 68 (.bool false) rfl rfl (by kernel_rfl) (by kernel_rfl) (by kernel_rfl) (fun _ _ _ h => h) (by rfl) (by intro w' hSw; (try dsimp only at hSw); go_simp; (try (with_reducible rfl))) (by assumption) ?_
              simp only [Act.put, List.setIfInBounds_toArray, List.set_cons_zero, List.set_cons_succ]
              refine held_take 12 12 (.bool false) rfl rfl (by kernel_rfl) (by kernel_rfl) (by kernel_rfl) (fun _ _ _ h => h) (by rfl) (by intro w' hSw; (try dsimp only at hSw); go_simp; (try (with_reducible rfl))) (by assumption) ?_
              simp only [Act.put, List.setIfInBounds_toArray, List.set_cons_zero, List.set_cons_succ]
              refine wpAnyH_done (by kernel_rfl) ?_ _
              clear hHeld
              go_wp2_with fail
              go_roundw
              case rel => exact ⟨i + 1, false, by omega, by go_num, rfl, HNX.out, HBL.out⟩
              case measure => simp [intOf]; omega
            · have HEQ := Lib.hid he
              have HNX := Lib.hid (show hasE (T.take (i + 1)) p.id = true by rw [HNXT.out, HV.out, he]; rfl)
              clear he
              go_wp2_with fail
              have HBL := Lib.hid HBL.out.drew
              have HQ2 := Lib.hid (HQ.out.below HBL.out)
              refine wp_region_held_drew (S := (fun w' => w'.cell? ⟨b0, off + i * 12, none⟩ = some (.string x.pod.id) ∧ w'.cell? ⟨w.heap.size, 0, none⟩ = some (.string p.id))) (by kernel_rfl) (⟨(HTX.out.enAt HBL.out HXI.out).1, HQ2.out.pb.cell 0⟩) (fun hHeld => ?_)
              refine held_take 0 57 (.bool false) rfl rfl (by kernel_rfl) (by kernel_rfl) (by kernel_rfl) (fun _ _ _ h => h) (by rfl) (by intro w' hSw; (try dsimp only at hSw); go_simp; (try (with_reducible rfl))) (by assumption) ?_
              simp only [Act.put, List.setIfInBounds_toArray, List.set_cons_zero, List.set_cons_succ]
              refine held_take 1 58 (.bool false) rfl rfl (by kernel_rfl) (by kernel_rfl) (by kernel_rfl) (fun _ _ _ h => h) (by rfl) (by intro w' hSw; (try dsimp only at hSw); go_simp; (try (with_reducible rfl))) (by assumption) ?_
              simp only [Act.put, List.setIfInBounds_toArray, List.set_cons_zero, List.set_cons_succ]
              refine held_take 2 59 (.slice (some ⟨b0, off, none⟩) K2 cT) rfl rfl (by kernel_rfl) (by kernel_rfl) (by kernel_rfl) (fun _ _ _ h => h) (by rfl) (by intro w' hSw; (try dsimp only at hSw); go_simp; (try (with_reducible rfl))) (by assumption) ?_
              simp only [Act.put, List.setIfInBounds_toArray, List.set_cons_zero, List.set_cons_succ]
              refine held_take 3 60 (.int .i64 i) rfl rfl (by kernel_rfl) (by kernel_rfl) (by kernel_rfl) (fun _ _ _ h => h) (by rfl) (by intro w' hSw; (try dsimp only at hSw); go_simp; (try (with_reducible rfl))) (by assumption) ?_
              simp only [Act.put, List.setIfInBounds_toArray, List.set_cons_zero, List.set_cons_succ]
              refine held_take 4 61 (.pointer (some ⟨b0, off + i * 12, none⟩)) rfl rfl (by kernel_rfl) (by kernel_rfl) (by kernel_rfl) (fun _ _ _ h => h) (by rfl) (by intro w' hSw; (try dsimp only at hSw); go_simp; (try (with_reducible rfl))) (by assumption) ?_
              simp only [Act.put, List.setIfInBounds_toArray, List.set_cons_zero, List.set_cons_succ]
              refine held_take 5 62 (.pointer (some ⟨b0, off + i * 12, none⟩)) rfl rfl (by kernel_rfl) (by kernel_rfl) (by kernel_rfl) (fun _ _ _ h => h) (by rfl) (by intro w' hSw; (try dsimp only at hSw); go_simp; (try (with_reducible rfl))) (by assumption) ?_
              simp only [Act.put, List.setIfInBounds_toArray, List.set_cons_zero, List.set_cons_succ]
              refine held_take 6 63 (.pointer (some ⟨b0, off + i * 12, none⟩)) rfl rfl (by kernel_rfl) (by kernel_rfl) (by kernel_rfl) (fun _ _ _ h => h) (by rfl) (by intro w' hSw; (try dsimp only at hSw); go_simp; (try (with_reducible rfl))) (by assumption) ?_
              simp only [Act.put, List.setIfInBounds_toArray, List.set_cons_zero, List.set_cons_succ]
              refine held_take 7 64 (.string x.pod.id) rfl rfl (by kernel_rfl) (by kernel_rfl) (by kernel_rfl) (fun _ _ _ h => h) (by rfl) (by intro w' hSw; (try dsimp only at hSw); go_simp; (try (with_reducible rfl))) (by assumption) ?_
              simp only [Act.put, List.setIfInBounds_toArray, List.set_cons_zero, List.set_cons_succ]
              refine held_take 8 65 (.pointer (some ⟨w.heap.size, 0, none⟩)) rfl rfl (by kernel_rfl) (by kernel_rfl) (by kernel_rfl) (fun _ _ _ h => h) (by rfl) (by intro w' hSw; (try dsimp only at hSw); go_simp; (try (with_reducible rfl))) (by assumption) ?_
              simp only [Act.put, List.setIfInBounds_toArray, List.set_cons_zero, List.set_cons_succ]
              refine held_take 9 66 (.string p.id) rfl rfl (by kernel_rfl) (by kernel_rfl) (by kernel_rfl) (fun _ _ _ h => h) (by rfl) (by intro w' hSw; (try dsimp only at hSw); go_simp; (try (with_reducible rfl))) (by assumption) ?_
              simp only [Act.put, List.setIfInBounds_toArray, List.set_cons_zero, List.set_cons_succ]
              refine held_take 10 67 (.bool true) rfl rfl (by kernel_rfl) (by kernel_rfl) (by kernel_rfl) (fun _ _ _ h => h) (by rfl) (by intro w' hSw; (try dsimp only at hSw); go_simp; (first | done | with_reducible rfl | (have hh := HEQ.out; simpa using hh))) (by assumption) ?_
              simp only [Act.put, List.setIfInBounds_toArray, List.set_cons_zero, List.set_cons_succ]
              refine held_take 11 68 (.bool true) rfl rfl (by kernel_rfl) (by kernel_rfl) (by kernel_rfl) (fun _ _ _ h => h) (by rfl) (by intro w' hSw; (try dsimp only at hSw); go_simp; (try (with_reducible rfl))) (by assumption) ?_
              simp only [Act.put, List.setIfInBounds_toArray, List.set_cons_zero, List.set_cons_succ]
              refine held_take 12 12 (.bool true) rfl rfl (by kernel_rfl) (by kernel_rfl) (by kernel_rfl) (fun _ _ _ h => h) (by rfl) (by intro w' hSw; (try dsimp only at hSw); go_simp; (try (with_reducible rfl))) (by assumption) ?_
              simp only [Act.put, List.setIfInBounds_toArray, List.set_cons_zero, List.set_cons_succ]
              refine wpAnyH_done (by kernel_rfl) ?_ _
              clear hHeld
              go_wp2_with fail
              go_roundw
              case rel => exact ⟨i + 1, true, by omega, by go_num, rfl, HNX.out, HBL.out⟩
              case measure => simp [intOf]; omega
          · have HNX := Lib.hid (show hasE (T.take (i + 1)) p.id = true by rw [HNXT.out, HV.out]; rfl)
            go_wp2_with fail
            have HBL := Lib.hid HBL.out.drew
            have HQ2 := Lib.hid (HQ.out.below HBL.out)
            refine wp_region_held_drew (S := (fun w' => w'.cell? ⟨b0, off + i * 12, none⟩ = some (.string x.pod.id) ∧ w'.cell? ⟨w.heap.size, 0, none⟩ = some (.string p.id))) (by kernel_rfl) (⟨(HTX.out.enAt HBL.out HXI.out).1, HQ2.out.pb.cell 0⟩) (fun hHeld => ?_)
            refine held_take 0 57 (.bool true) rfl rfl (by kernel_rfl) (by kernel_rfl) (by kernel_rfl) (fun _ _ _ h => h) (by rfl) (by intro w' hSw; (try dsimp only at hSw); go_simp; (try (with_reducible rfl))) (by assumption) ?_
            simp only [Act.put, List.setIfInBounds_toArray, List.set_cons_zero, List.set_cons_succ]
            refine held_take 1 58 (.bool true) rfl rfl (by kernel_rfl) (by kernel_rfl) (by kernel_rfl) (fun _ _ _ h => h) (by rfl) (by intro w' hSw; (try dsimp only at hSw); go_simp; (try (with_reducible rfl))) (by assumption) ?_
            simp only [Act.put, List.setIfInBounds_toArray, List.set_cons_zero, List.set_cons_succ]
            refine held_skip 2 59 rfl rfl (by kernel_rfl) (by kernel_rfl) (by kernel_rfl) (fun _ _ _ h => h) (by rfl) (by assumption) ?_
            simp only [Act.put, List.setIfInBounds_toArray, List.set_cons_zero, List.set_cons_succ]
            refine held_skip 3 60 rfl rfl (by kernel_rfl) (by kernel_rfl) (by kernel_rfl) (fun _ _ _ h => h) (by rfl) (by assumption) ?_
            simp only [Act.put, List.setIfInBounds_toArray, List.set_cons_zero, List.set_cons_succ]
            refine held_skip 4 61 rfl rfl (by kernel_rfl) (by kernel_rfl) (by kernel_rfl) (fun _ _ _ h => h) (by rfl) (by assumption) ?_
            simp only [Act.put, List.setIfInBounds_toArray, List.set_cons_zero, List.set_cons_succ]
            refine held_skip 5 62 rfl rfl (by kernel_rfl) (by kernel_rfl) (by kernel_rfl) (fun _ _ _ h => h) (by rfl) (by assumption) ?_
            simp only [Act.put, List.setIfInBounds_toArray, List.set_cons_zero, List.set_cons_succ]
            refine held_skip 6 63 rfl rfl (by kernel_rfl) (by kernel_rfl) (by kernel_rfl) (fun _ _ _ h => h) (by rfl) (by assumption) ?_
            simp only [Act.put, List.setIfInBounds_toArray, List.set_cons_zero, List.set_cons_succ]
            refine held_skip 7 64 rfl rfl (by kernel_rfl) (by kernel_rfl) (by kernel_rfl) (fun _ _ _ h => h) (by rfl) (by assumption) ?_
            simp only [Act.put, List.setIfInBounds_toArray, List.set_cons_zero, List.set_cons_succ]
            refine held_skip 8 65 rfl rfl (by kernel_rfl) (by kernel_rfl) (by kernel_rfl) (fun _ _ _ h => h) (by rfl) (by assumption) ?_
            simp only [Act.put, List.setIfInBounds_toArray, List.set_cons_zero, List.set_cons_succ]
            refine held_skip 9 66 rfl rfl (by kernel_rfl) (by kernel_rfl) (by kernel_rfl) (fun _ _ _ h => h) (by rfl) (by assumption) ?_
            simp only [Act.put, List.setIfInBounds_toArray, List.set_cons_zero, List.set_cons_succ]
            refine held_skip 10 67 rfl rfl (by kernel_rfl) (by kernel_rfl) (by kernel_rfl) (fun _ _ _ h => h) (by rfl) (by assumption) ?_
            simp only [Act.put, List.setIfInBounds_toArray, List.set_cons_zero, List.set_cons_succ]
            refine held_take 11 68 (.bool true) rfl rfl (by kernel_rfl) (by kernel_rfl) (by kernel_rfl) (fun _ _ _ h => h) (by rfl) (by intro w' hSw; (try dsimp only at hSw); go_simp; (try (with_reducible rfl))) (by assumption) ?_
            simp only [Act.put, List.setIfInBounds_toArray, List.set_cons_zero, List.set_cons_succ]
            refine held_take 12 12 (.bool true) rfl rfl (by kernel_rfl) (by kernel_rfl) (by kernel_rfl) (fun _ _ _ h => h) (by rfl) (by intro w' hSw; (try dsimp only at hSw); go_simp; (try (with_reducible rfl))) (by assumption) ?_
            simp only [Act.put, List.setIfInBounds_toArray, List.set_cons_zero, List.set_cons_succ]
            refine wpAnyH_done (by kernel_rfl) ?_ _
            clear hHeld
            go_wp2_with fail
            go_roundw
            case rel => exact ⟨i + 1, true, by omega, by go_num, rfl, HNX.out, HBL.out⟩
            case measure => simp [intOf]; omega
        · obtain rfl : i = K2 := by omega
          have dk : decide ((i : Int) < (i : Int)) = false := by simp
          have HH := Lib.hid (show hasE T p.id = v by have h := HV.out; rw [← HTL.out, List.take_length] at h; exact h)
          have HQ := Lib.hid (HQ.out.below HBL.out)
          have HTX := Lib.hid (HTX.out.below HBL.out)
          clear HBL HV
          go_wp2_with fail
          have HWT := Lib.hid HT.out.wf
          skip
          go_cut [14, 15] (fun v14 v15 W => ∃ (N : Nat) (k s : Int) (O : List ByteArray) (er : Int) (A1 : Option Addr) (c1 : Nat), v14 = .pointer (some ⟨N, 0, none⟩) ∧ v15 = .int .i64 er ∧ Blk W N 36 #[.int .i64 k, .int .i64 s, .slice A1 O.length c1] ∧ Rds W encS A1 O ∧ VerD fS.room p T a b c k s O er ∧ EB a b c p w W ∧ O.length ≤ 64)
          case first =>
            have HQ := Lib.hid HQ.out.drew
            have HTX := Lib.hid HTX.out.drew
            refine wp_region_held_drew (S := (fun w' => w'.cell? ⟨w.heap.size + 1, 0, none⟩ = some (.bool a) ∧ w'.cell? ⟨w.heap.size + 1, 1, none⟩ = some (.bool b) ∧ w'.cell? ⟨w.heap.size + 1, 2, none⟩ = some (.bool c) ∧ w'.cell? ⟨w.heap.size, 0, none⟩ = some (.string p.id) ∧ w'.cell? ⟨w.heap.size, 1, none⟩ = some (.int .i64 p.prio) ∧ w'.cell? ⟨w.heap.size, 2, none⟩ = some (.bool p.crit) ∧ w'.cell? ⟨w.heap.size, 3, none⟩ = some (.int .i64 p.q0) ∧ w'.cell? ⟨w.heap.size, 4, none⟩ = some (.int .i64 p.q1) ∧ w'.cell? ⟨w.heap.size, 5, none⟩ = some (.int .i64 p.q2) ∧ w'.cell? ⟨w.heap.size, 6, none⟩ = some (.int .i64 p.l0) ∧ w'.cell? ⟨w.heap.size, 7, none⟩ = some (.int .i64 p.l1) ∧ w'.cell? ⟨w.heap.size, 8, none⟩ = some (.int .i64 p.l2) ∧ w'.cell? ⟨w.heap.size, 9, none⟩ = some (.string p.image) ∧ w'.cell? ⟨w.heap.size, 10, none⟩ = some (.int .i64 p.size))) (by kernel_rfl) (ebCells HQ.out) (fun hHeld => ?_)
            rename World => wz
            generalize wz.drew = wd at *
            have hb0 : Below wd.heap.size wd wd := Below.refl _ _
            have HB := Lib.hid hb0
            clear hb0
            refine held_take 1 71 (.slice AT i cT) rfl rfl (by kernel_rfl) (by kernel_rfl) (by kernel_rfl) (fun _ _ _ h => h) (by rfl) (by intro w' hSw; (try dsimp only at hSw); go_simp; (try (with_reducible rfl))) (by assumption) ?_
            simp only [Act.put, List.setIfInBounds_toArray, List.set_cons_zero, List.set_cons_succ]
            refine held_take 2 72 (.agg #[.bool a, .bool b, .bool c]) rfl rfl (by kernel_rfl) (by kernel_rfl) (by kernel_rfl) (fun _ _ _ h => h) (by rfl) (by intro w' hSw; (try dsimp only at hSw); go_simp; (try (with_reducible rfl))) (by assumption) ?_
            simp only [Act.put, List.setIfInBounds_toArray, List.set_cons_zero, List.set_cons_succ]
            refine held_take 3 73 (.agg #[.string p.id, .int .i64 p.prio, .bool p.crit, .int .i64 p.q0, .int .i64 p.q1, .int .i64 p.q2, .int .i64 p.l0, .int .i64 p.l1, .int .i64 p.l2, .string p.image, .int .i64 p.size]) rfl rfl (by kernel_rfl) (by kernel_rfl) (by kernel_rfl) (fun _ _ _ h => h) (by rfl) (by intro w' hSw; (try dsimp only at hSw); go_simp; (try (with_reducible rfl))) (by assumption) ?_
            simp only [Act.put, List.setIfInBounds_toArray, List.set_cons_zero, List.set_cons_succ]
            refine held_twoD 0 8 70 14 rfl rfl rfl rfl (by kernel_rfl) (by rfl) (by rfl) (fun K hK => ?_) (fun K hK => ?_)
            · go_simp
              go_at_call 19; (with_reducible refine (some_any _).mono ?_); rintro e w6 ⟨rfl, hb⟩
              have HQ := Lib.hid (HQ.out.below hb)
              have HTX := Lib.hid (HTX.out.below hb)
              have HB := Lib.hid (below_rV HB.out hb)
              clear hb
              refine hK _ _ (ebCells HQ.out) ?_
              have hHeld := (show w6.cell? ⟨w.heap.size + 1, 0, none⟩ = some (.bool a) ∧ w6.cell? ⟨w.heap.size + 1, 1, none⟩ = some (.bool b) ∧ w6.cell? ⟨w.heap.size + 1, 2, none⟩ = some (.bool c) ∧ w6.cell? ⟨w.heap.size, 0, none⟩ = some (.string p.id) ∧ w6.cell? ⟨w.heap.size, 1, none⟩ = some (.int .i64 p.prio) ∧ w6.cell? ⟨w.heap.size, 2, none⟩ = some (.bool p.crit) ∧ w6.cell? ⟨w.heap.size, 3, none⟩ = some (.int .i64 p.q0) ∧ w6.cell? ⟨w.heap.size, 4, none⟩ = some (.int .i64 p.q1) ∧ w6.cell? ⟨w.heap.size, 5, none⟩ = some (.int .i64 p.q2) ∧ w6.cell? ⟨w.heap.size, 6, none⟩ = some (.int .i64 p.l0) ∧ w6.cell? ⟨w.heap.size, 7, none⟩ = some (.int .i64 p.l1) ∧ w6.cell? ⟨w.heap.size, 8, none⟩ = some (.int .i64 p.l2) ∧ w6.cell? ⟨w.heap.size, 9, none⟩ = some (.string p.image) ∧ w6.cell? ⟨w.heap.size, 10, none⟩ = some (.int .i64 p.size) from ebCells HQ.out)
              clear hK K
              simp only [Act.put, List.setIfInBounds_toArray, List.set_cons_zero, List.set_cons_succ]
              refine held_twoD 4 8 74 14 rfl rfl rfl rfl (by kernel_rfl) (by rfl) (by rfl) (fun K hK => ?_) (fun K hK => ?_)
              · go_simp
                go_at_call 12; (with_reducible refine (decideN HTL.out.symm AT cT _ HTX.out HWT.out (by have := HTL.out; omega) HPW.out).mono ?_); rintro e w7 ⟨k, s, O, er, A1, c1, rfl, hv, ho, hb⟩
                have HVV := Lib.hid hv
                have HX := Lib.hid ho
                have HQ := Lib.hid (HQ.out.below hb)
                have HTX := Lib.hid (HTX.out.below hb)
                have HB := Lib.hid (below_rV HB.out hb)
                clear hv ho hb
                refine hK _ _ (ebCells HQ.out) ?_
                have hHeld := (show w7.cell? ⟨w.heap.size + 1, 0, none⟩ = some (.bool a) ∧ w7.cell? ⟨w.heap.size + 1, 1, none⟩ = some (.bool b) ∧ w7.cell? ⟨w.heap.size + 1, 2, none⟩ = some (.bool c) ∧ w7.cell? ⟨w.heap.size, 0, none⟩ = some (.string p.id) ∧ w7.cell? ⟨w.heap.size, 1, none⟩ = some (.int .i64 p.prio) ∧ w7.cell? ⟨w.heap.size, 2, none⟩ = some (.bool p.crit) ∧ w7.cell? ⟨w.heap.size, 3, none⟩ = some (.int .i64 p.q0) ∧ w7.cell? ⟨w.heap.size, 4, none⟩ = some (.int .i64 p.q1) ∧ w7.cell? ⟨w.heap.size, 5, none⟩ = some (.int .i64 p.q2) ∧ w7.cell? ⟨w.heap.size, 6, none⟩ = some (.int .i64 p.l0) ∧ w7.cell? ⟨w.heap.size, 7, none⟩ = some (.int .i64 p.l1) ∧ w7.cell? ⟨w.heap.size, 8, none⟩ = some (.int .i64 p.l2) ∧ w7.cell? ⟨w.heap.size, 9, none⟩ = some (.string p.image) ∧ w7.cell? ⟨w.heap.size, 10, none⟩ = some (.int .i64 p.size) from ebCells HQ.out)
                clear hK K
                simp only [Act.put, List.setIfInBounds_toArray, List.set_cons_zero, List.set_cons_succ]
                refine held_take 5 69 (.tuple #[.agg #[.int .i64 k, .int .i64 s, .slice A1 O.length c1], .int .i64 er]) rfl rfl (by kernel_rfl) (by kernel_rfl) (by kernel_rfl) (fun _ _ _ h => h) (by rfl) (by intro w' hSw; (try dsimp only at hSw); go_simp; (try (with_reducible rfl))) (by assumption) ?_
                simp only [Act.put, List.setIfInBounds_toArray, List.set_cons_zero, List.set_cons_succ]
                refine held_take 6 75 (.agg #[.int .i64 k, .int .i64 s, .slice A1 O.length c1]) rfl rfl (by kernel_rfl) (by kernel_rfl) (by kernel_rfl) (fun _ _ _ h => h) (by rfl) (by intro w' hSw; (try dsimp only at hSw); go_simp; (try (with_reducible rfl))) (by assumption) ?_
                simp only [Act.put, List.setIfInBounds_toArray, List.set_cons_zero, List.set_cons_succ]
                refine held_take 7 76 (.int .i64 er) rfl rfl (by kernel_rfl) (by kernel_rfl) (by kernel_rfl) (fun _ _ _ h => h) (by rfl) (by intro w' hSw; (try dsimp only at hSw); go_simp; (try (with_reducible rfl))) (by assumption) ?_
                simp only [Act.put, List.setIfInBounds_toArray, List.set_cons_zero, List.set_cons_succ]
                refine held_call 8 14 rfl rfl (by kernel_rfl) (by rfl) (fun K hK => ?_)
                go_simp
                refine hK _ _ (ebCells (HQ.out.alloc (.cells #[.int .i64 0, .int .i64 0, .slice none 0 0] 36))) ?_
                have hHeld := ebCells (HQ.out.alloc (.cells #[.int .i64 0, .int .i64 0, .slice none 0 0] 36))
                clear hK K
                simp only [Act.put, List.setIfInBounds_toArray, List.set_cons_zero, List.set_cons_succ]
                refine held_op 9 rfl (by kernel_rfl) (by rfl) (fun K hK => ?_)
                go_simp
                refine hK undef _ (ebCells (HQ.out.alloc (.cells #[.int .i64 k, .int .i64 s, .slice A1 O.length c1] 36))) ?_
                have hHeld := ebCells (HQ.out.alloc (.cells #[.int .i64 k, .int .i64 s, .slice A1 O.length c1] 36))
                clear hK K
                simp only [Act.put, List.setIfInBounds_toArray]
                refine held_take 10 15 (.int .i64 er) rfl rfl (by kernel_rfl) (by kernel_rfl) (by kernel_rfl) (fun _ _ _ h => h) (by rfl) (by intro w' hSw; (try dsimp only at hSw); go_simp; (try (with_reducible rfl))) (by assumption) ?_
                simp only [Act.put]
                refine wpAnyH_done (by kernel_rfl) ?_ _
                clear hHeld
                go_wp2_with fail
                go_meet
                exact ⟨w7.heap.size, k, s, O, er, A1, c1, rfl, rfl, Blk.new _ _ _, (HX.out.alloc (.cells #[.int .i64 k, .int .i64 s, .slice A1 O.length c1] 36)).toRds, HVV.out, HQ.out.alloc (.cells #[.int .i64 k, .int .i64 s, .slice A1 O.length c1] 36), HVV.out.len64 (by have := HTL.out; omega)⟩
              · go_simp
                have HN := Lib.hid (Blk.new w6 36 #[.int .i64 0, .int .i64 0, .slice none 0 0])
                have HB := Lib.hid (HB.out.alloc HB.out.size (.cells #[.int .i64 0, .int .i64 0, .slice none 0 0] 36))
                have HNB := Lib.hid (show w.heap.size + 1 < w6.heap.size from HQ.out.on.lt)
                have HQ := Lib.hid (HQ.out.alloc (.cells #[.int .i64 0, .int .i64 0, .slice none 0 0] 36))
                have HTX := Lib.hid (HTX.out.alloc (.cells #[.int .i64 0, .int .i64 0, .slice none 0 0] 36))
                refine hK _ _ (ebCells HQ.out) ?_
                have hHeld := (show (w6.alloc (.cells #[.int .i64 0, .int .i64 0, .slice none 0 0] 36)).cell? ⟨w.heap.size + 1, 0, none⟩ = some (.bool a) ∧ (w6.alloc (.cells #[.int .i64 0, .int .i64 0, .slice none 0 0] 36)).cell? ⟨w.heap.size + 1, 1, none⟩ = some (.bool b) ∧ (w6.alloc (.cells #[.int .i64 0, .int .i64 0, .slice none 0 0] 36)).cell? ⟨w.heap.size + 1, 2, none⟩ = some (.bool c) ∧ (w6.alloc (.cells #[.int .i64 0, .int .i64 0, .slice none 0 0] 36)).cell? ⟨w.heap.size, 0, none⟩ = some (.string p.id) ∧ (w6.alloc (.cells #[.int .i64 0, .int .i64 0, .slice none 0 0] 36)).cell? ⟨w.heap.size, 1, none⟩ = some (.int .i64 p.prio) ∧ (w6.alloc (.cells #[.int .i64 0, .int .i64 0, .slice none 0 0] 36)).cell? ⟨w.heap.size, 2, none⟩ = some (.bool p.crit) ∧ (w6.alloc (.cells #[.int .i64 0, .int .i64 0, .slice none 0 0] 36)).cell? ⟨w.heap.size, 3, none⟩ = some (.int .i64 p.q0) ∧ (w6.alloc (.cells #[.int .i64 0, .int .i64 0, .slice none 0 0] 36)).cell? ⟨w.heap.size, 4, none⟩ = some (.int .i64 p.q1) ∧ (w6.alloc (.cells #[.int .i64 0, .int .i64 0, .slice none 0 0] 36)).cell? ⟨w.heap.size, 5, none⟩ = some (.int .i64 p.q2) ∧ (w6.alloc (.cells #[.int .i64 0, .int .i64 0, .slice none 0 0] 36)).cell? ⟨w.heap.size, 6, none⟩ = some (.int .i64 p.l0) ∧ (w6.alloc (.cells #[.int .i64 0, .int .i64 0, .slice none 0 0] 36)).cell? ⟨w.heap.size, 7, none⟩ = some (.int .i64 p.l1) ∧ (w6.alloc (.cells #[.int .i64 0, .int .i64 0, .slice none 0 0] 36)).cell? ⟨w.heap.size, 8, none⟩ = some (.int .i64 p.l2) ∧ (w6.alloc (.cells #[.int .i64 0, .int .i64 0, .slice none 0 0] 36)).cell? ⟨w.heap.size, 9, none⟩ = some (.string p.image) ∧ (w6.alloc (.cells #[.int .i64 0, .int .i64 0, .slice none 0 0] 36)).cell? ⟨w.heap.size, 10, none⟩ = some (.int .i64 p.size) from ebCells HQ.out)
                clear hK K
                simp only [Act.put, List.setIfInBounds_toArray, List.set_cons_zero, List.set_cons_succ]
                refine held_call 4 74 rfl rfl (by kernel_rfl) (by rfl) (fun K hK => ?_)
                go_simp
                go_at_call 12; (with_reducible refine (decideN HTL.out.symm AT cT _ HTX.out HWT.out (by have := HTL.out; omega) HPW.out).mono ?_); rintro e w7 ⟨k, s, O, er, A1, c1, rfl, hv, ho, hb⟩
                have HVV := Lib.hid hv
                have HX := Lib.hid ho
                have HQ := Lib.hid (HQ.out.below hb)
                have HTX := Lib.hid (HTX.out.below hb)
                have HB := Lib.hid (below_rV HB.out hb)
                have HN := Lib.hid (HN.out.belowAll hb)
                clear hv ho hb
                refine hK _ _ (ebCells HQ.out) ?_
                have hHeld := (show w7.cell? ⟨w.heap.size + 1, 0, none⟩ = some (.bool a) ∧ w7.cell? ⟨w.heap.size + 1, 1, none⟩ = some (.bool b) ∧ w7.cell? ⟨w.heap.size + 1, 2, none⟩ = some (.bool c) ∧ w7.cell? ⟨w.heap.size, 0, none⟩ = some (.string p.id) ∧ w7.cell? ⟨w.heap.size, 1, none⟩ = some (.int .i64 p.prio) ∧ w7.cell? ⟨w.heap.size, 2, none⟩ = some (.bool p.crit) ∧ w7.cell? ⟨w.heap.size, 3, none⟩ = some (.int .i64 p.q0) ∧ w7.cell? ⟨w.heap.size, 4, none⟩ = some (.int .i64 p.q1) ∧ w7.cell? ⟨w.heap.size, 5, none⟩ = some (.int .i64 p.q2) ∧ w7.cell? ⟨w.heap.size, 6, none⟩ = some (.int .i64 p.l0) ∧ w7.cell? ⟨w.heap.size, 7, none⟩ = some (.int .i64 p.l1) ∧ w7.cell? ⟨w.heap.size, 8, none⟩ = some (.int .i64 p.l2) ∧ w7.cell? ⟨w.heap.size, 9, none⟩ = some (.string p.image) ∧ w7.cell? ⟨w.heap.size, 10, none⟩ = some (.int .i64 p.size) from ebCells HQ.out)
                clear hK K
                simp only [Act.put, List.setIfInBounds_toArray, List.set_cons_zero, List.set_cons_succ]
                refine held_take 5 69 (.tuple #[.agg #[.int .i64 k, .int .i64 s, .slice A1 O.length c1], .int .i64 er]) rfl rfl (by kernel_rfl) (by kernel_rfl) (by kernel_rfl) (fun _ _ _ h => h) (by rfl) (by intro w' hSw; (try dsimp only at hSw); go_simp; (try (with_reducible rfl))) (by assumption) ?_
                simp only [Act.put, List.setIfInBounds_toArray, List.set_cons_zero, List.set_cons_succ]
                refine held_take 6 75 (.agg #[.int .i64 k, .int .i64 s, .slice A1 O.length c1]) rfl rfl (by kernel_rfl) (by kernel_rfl) (by kernel_rfl) (fun _ _ _ h => h) (by rfl) (by intro w' hSw; (try dsimp only at hSw); go_simp; (try (with_reducible rfl))) (by assumption) ?_
                simp only [Act.put, List.setIfInBounds_toArray, List.set_cons_zero, List.set_cons_succ]
                refine held_take 7 76 (.int .i64 er) rfl rfl (by kernel_rfl) (by kernel_rfl) (by kernel_rfl) (fun _ _ _ h => h) (by rfl) (by intro w' hSw; (try dsimp only at hSw); go_simp; (try (with_reducible rfl))) (by assumption) ?_
                simp only [Act.put, List.setIfInBounds_toArray, List.set_cons_zero, List.set_cons_succ]
                have nc0 := HN.out.cell 0
                have nc1 := HN.out.cell 1
                have nc2 := HN.out.cell 2
                simp only [List.getElem?_toArray, List.getElem?_cons_zero, List.getElem?_cons_succ] at nc0 nc1 nc2
                have nf0 := HN.out.frozen 0
                have nf1 := HN.out.frozen 1
                have nf2 := HN.out.frozen 2
                have HQF := Lib.hid (((HQ.out.far (a' := ⟨w6.heap.size, 0, none⟩) HNB.out (.int .i64 k)).far (a' := ⟨w6.heap.size, 1, none⟩) HNB.out (.int .i64 s)).far (a' := ⟨w6.heap.size, 2, none⟩) HNB.out (.slice A1 O.length c1))
                have HRF := Lib.hid (((HX.out.setFar HN.out (by decide) 0 (.int .i64 k)).setFar (HN.out.set_ 0 (.int .i64 k)) (by decide) 1 (.int .i64 s)).setFar ((HN.out.set_ 0 (.int .i64 k)).set_ 1 (.int .i64 s)) (by decide) 2 (.slice A1 O.length c1))
                have HNF := Lib.hid (((HN.out.set_ 0 (.int .i64 k)).set_ 1 (.int .i64 s)).set_ 2 (.slice A1 O.length c1))
                refine held_op 9 rfl (by kernel_rfl) (by rfl) (fun K hK => ?_)
                go_simp
                refine hK undef _ (ebCells HQF.out) ?_
                have hHeld := ebCells HQF.out
                clear hK K
                simp only [Act.put, List.setIfInBounds_toArray, List.set_cons_zero, List.set_cons_succ]
                refine held_take 10 15 (.int .i64 er) rfl rfl (by kernel_rfl) (by kernel_rfl) (by kernel_rfl) (fun _ _ _ h => h) (by rfl) (by intro w' hSw; (try dsimp only at hSw); go_simp; (try (with_reducible rfl))) (by assumption) ?_
                simp only [Act.put, List.setIfInBounds_toArray, List.set_cons_zero, List.set_cons_succ]
                refine wpAnyH_done (by kernel_rfl) ?_ _
                clear hHeld
                go_wp2_with fail
                go_meet
                exact ⟨w6.heap.size, k, s, O, er, A1, c1, rfl, rfl, by simpa using HNF.out, HRF.out.toRds, HVV.out, HQF.out, HVV.out.len64 (by have := HTL.out; omega)⟩
            · go_simp
              have HN := Lib.hid (Blk.new wd 36 #[.int .i64 0, .int .i64 0, .slice none 0 0])
              have HB := Lib.hid (HB.out.alloc HB.out.size (.cells #[.int .i64 0, .int .i64 0, .slice none 0 0] 36))
              have HNB := Lib.hid (show w.heap.size + 1 < wd.heap.size from HQ.out.on.lt)
              have HQ := Lib.hid (HQ.out.alloc (.cells #[.int .i64 0, .int .i64 0, .slice none 0 0] 36))
              have HTX := Lib.hid (HTX.out.alloc (.cells #[.int .i64 0, .int .i64 0, .slice none 0 0] 36))
              refine hK _ _ (ebCells HQ.out) ?_
              have hHeld := (show (wd.alloc (.cells #[.int .i64 0, .int .i64 0, .slice none 0 0] 36)).cell? ⟨w.heap.size + 1, 0, none⟩ = some (.bool a) ∧ (wd.alloc (.cells #[.int .i64 0, .int .i64 0, .slice none 0 0] 36)).cell? ⟨w.heap.size + 1, 1, none⟩ = some (.bool b) ∧ (wd.alloc (.cells #[.int .i64 0, .int .i64 0, .slice none 0 0] 36)).cell? ⟨w.heap.size + 1, 2, none⟩ = some (.bool c) ∧ (wd.alloc (.cells #[.int .i64 0, .int .i64 0, .slice none 0 0] 36)).cell? ⟨w.heap.size, 0, none⟩ = some (.string p.id) ∧ (wd.alloc (.cells #[.int .i64 0, .int .i64 0, .slice none 0 0] 36)).cell? ⟨w.heap.size, 1, none⟩ = some (.int .i64 p.prio) ∧ (wd.alloc (.cells #[.int .i64 0, .int .i64 0, .slice none 0 0] 36)).cell? ⟨w.heap.size, 2, none⟩ = some (.bool p.crit) ∧ (wd.alloc (.cells #[.int .i64 0, .int .i64 0, .slice none 0 0] 36)).cell? ⟨w.heap.size, 3, none⟩ = some (.int .i64 p.q0) ∧ (wd.alloc (.cells #[.int .i64 0, .int .i64 0, .slice none 0 0] 36)).cell? ⟨w.heap.size, 4, none⟩ = some (.int .i64 p.q1) ∧ (wd.alloc (.cells #[.int .i64 0, .int .i64 0, .slice none 0 0] 36)).cell? ⟨w.heap.size, 5, none⟩ = some (.int .i64 p.q2) ∧ (wd.alloc (.cells #[.int .i64 0, .int .i64 0, .slice none 0 0] 36)).cell? ⟨w.heap.size, 6, none⟩ = some (.int .i64 p.l0) ∧ (wd.alloc (.cells #[.int .i64 0, .int .i64 0, .slice none 0 0] 36)).cell? ⟨w.heap.size, 7, none⟩ = some (.int .i64 p.l1) ∧ (wd.alloc (.cells #[.int .i64 0, .int .i64 0, .slice none 0 0] 36)).cell? ⟨w.heap.size, 8, none⟩ = some (.int .i64 p.l2) ∧ (wd.alloc (.cells #[.int .i64 0, .int .i64 0, .slice none 0 0] 36)).cell? ⟨w.heap.size, 9, none⟩ = some (.string p.image) ∧ (wd.alloc (.cells #[.int .i64 0, .int .i64 0, .slice none 0 0] 36)).cell? ⟨w.heap.size, 10, none⟩ = some (.int .i64 p.size) from ebCells HQ.out)
              clear hK K
              simp only [Act.put, List.setIfInBounds_toArray, List.set_cons_zero, List.set_cons_succ]
              refine held_call 0 70 rfl rfl (by kernel_rfl) (by rfl) (fun K hK => ?_)
              go_simp
              go_at_call 19; (with_reducible refine (some_any _).mono ?_); rintro e w6 ⟨rfl, hb⟩
              have HQ := Lib.hid (HQ.out.below hb)
              have HTX := Lib.hid (HTX.out.below hb)
              have HB := Lib.hid (below_rV HB.out hb)
              have HN := Lib.hid (HN.out.belowAll hb)
              clear hb
              refine hK _ _ (ebCells HQ.out) ?_
              have hHeld := (show w6.cell? ⟨w.heap.size + 1, 0, none⟩ = some (.bool a) ∧ w6.cell? ⟨w.heap.size + 1, 1, none⟩ = some (.bool b) ∧ w6.cell? ⟨w.heap.size + 1, 2, none⟩ = some (.bool c) ∧ w6.cell? ⟨w.heap.size, 0, none⟩ = some (.string p.id) ∧ w6.cell? ⟨w.heap.size, 1, none⟩ = some (.int .i64 p.prio) ∧ w6.cell? ⟨w.heap.size, 2, none⟩ = some (.bool p.crit) ∧ w6.cell? ⟨w.heap.size, 3, none⟩ = some (.int .i64 p.q0) ∧ w6.cell? ⟨w.heap.size, 4, none⟩ = some (.int .i64 p.q1) ∧ w6.cell? ⟨w.heap.size, 5, none⟩ = some (.int .i64 p.q2) ∧ w6.cell? ⟨w.heap.size, 6, none⟩ = some (.int .i64 p.l0) ∧ w6.cell? ⟨w.heap.size, 7, none⟩ = some (.int .i64 p.l1) ∧ w6.cell? ⟨w.heap.size, 8, none⟩ = some (.int .i64 p.l2) ∧ w6.cell? ⟨w.heap.size, 9, none⟩ = some (.string p.image) ∧ w6.cell? ⟨w.heap.size, 10, none⟩ = some (.int .i64 p.size) from ebCells HQ.out)
              clear hK K
              simp only [Act.put, List.setIfInBounds_toArray, List.set_cons_zero, List.set_cons_succ]
              refine held_call 4 74 rfl rfl (by kernel_rfl) (by rfl) (fun K hK => ?_)
              go_simp
              go_at_call 12; (with_reducible refine (decideN HTL.out.symm AT cT _ HTX.out HWT.out (by have := HTL.out; omega) HPW.out).mono ?_); rintro e w7 ⟨k, s, O, er, A1, c1, rfl, hv, ho, hb⟩
              have HVV := Lib.hid hv
              have HX := Lib.hid ho
              have HQ := Lib.hid (HQ.out.below hb)
              have HTX := Lib.hid (HTX.out.below hb)
              have HB := Lib.hid (below_rV HB.out hb)
              have HN := Lib.hid (HN.out.belowAll hb)
              clear hv ho hb
              refine hK _ _ (ebCells HQ.out) ?_
              have hHeld := (show w7.cell? ⟨w.heap.size + 1, 0, none⟩ = some (.bool a) ∧ w7.cell? ⟨w.heap.size + 1, 1, none⟩ = some (.bool b) ∧ w7.cell? ⟨w.heap.size + 1, 2, none⟩ = some (.bool c) ∧ w7.cell? ⟨w.heap.size, 0, none⟩ = some (.string p.id) ∧ w7.cell? ⟨w.heap.size, 1, none⟩ = some (.int .i64 p.prio) ∧ w7.cell? ⟨w.heap.size, 2, none⟩ = some (.bool p.crit) ∧ w7.cell? ⟨w.heap.size, 3, none⟩ = some (.int .i64 p.q0) ∧ w7.cell? ⟨w.heap.size, 4, none⟩ = some (.int .i64 p.q1) ∧ w7.cell? ⟨w.heap.size, 5, none⟩ = some (.int .i64 p.q2) ∧ w7.cell? ⟨w.heap.size, 6, none⟩ = some (.int .i64 p.l0) ∧ w7.cell? ⟨w.heap.size, 7, none⟩ = some (.int .i64 p.l1) ∧ w7.cell? ⟨w.heap.size, 8, none⟩ = some (.int .i64 p.l2) ∧ w7.cell? ⟨w.heap.size, 9, none⟩ = some (.string p.image) ∧ w7.cell? ⟨w.heap.size, 10, none⟩ = some (.int .i64 p.size) from ebCells HQ.out)
              clear hK K
              simp only [Act.put, List.setIfInBounds_toArray, List.set_cons_zero, List.set_cons_succ]
              refine held_take 5 69 (.tuple #[.agg #[.int .i64 k, .int .i64 s, .slice A1 O.length c1], .int .i64 er]) rfl rfl (by kernel_rfl) (by kernel_rfl) (by kernel_rfl) (fun _ _ _ h => h) (by rfl) (by intro w' hSw; (try dsimp only at hSw); go_simp; (try (with_reducible rfl))) (by assumption) ?_
              simp only [Act.put, List.setIfInBounds_toArray, List.set_cons_zero, List.set_cons_succ]
              refine held_take 6 75 (.agg #[.int .i64 k, .int .i64 s, .slice A1 O.length c1]) rfl rfl (by kernel_rfl) (by kernel_rfl) (by kernel_rfl) (fun _ _ _ h => h) (by rfl) (by intro w' hSw; (try dsimp only at hSw); go_simp; (try (with_reducible rfl))) (by assumption) ?_
              simp only [Act.put, List.setIfInBounds_toArray, List.set_cons_zero, List.set_cons_succ]
              refine held_take 7 76 (.int .i64 er) rfl rfl (by kernel_rfl) (by kernel_rfl) (by kernel_rfl) (fun _ _ _ h => h) (by rfl) (by intro w' hSw; (try dsimp only at hSw); go_simp; (try (with_reducible rfl))) (by assumption) ?_
              simp only [Act.put, List.setIfInBounds_toArray, List.set_cons_zero, List.set_cons_succ]
              have nc0 := HN.out.cell 0
              have nc1 := HN.out.cell 1
              have nc2 := HN.out.cell 2
              simp only [List.getElem?_toArray, List.getElem?_cons_zero, List.getElem?_cons_succ] at nc0 nc1 nc2
              have nf0 := HN.out.frozen 0
              have nf1 := HN.out.frozen 1
              have nf2 := HN.out.frozen 2
              have HQF := Lib.hid (((HQ.out.far (a' := ⟨wd.heap.size, 0, none⟩) HNB.out (.int .i64 k)).far (a' := ⟨wd.heap.size, 1, none⟩) HNB.out (.int .i64 s)).far (a' := ⟨wd.heap.size, 2, none⟩) HNB.out (.slice A1 O.length c1))
              have HRF := Lib.hid (((HX.out.setFar HN.out (by decide) 0 (.int .i64 k)).setFar (HN.out.set_ 0 (.int .i64 k)) (by decide) 1 (.int .i64 s)).setFar ((HN.out.set_ 0 (.int .i64 k)).set_ 1 (.int .i64 s)) (by decide) 2 (.slice A1 O.length c1))
              have HNF := Lib.hid (((HN.out.set_ 0 (.int .i64 k)).set_ 1 (.int .i64 s)).set_ 2 (.slice A1 O.length c1))
              refine held_op 9 rfl (by kernel_rfl) (by rfl) (fun K hK => ?_)
              go_simp
              refine hK undef _ (ebCells HQF.out) ?_
              have hHeld := ebCells HQF.out
              clear hK K
              simp only [Act.put, List.setIfInBounds_toArray, List.set_cons_zero, List.set_cons_succ]
              refine held_take 10 15 (.int .i64 er) rfl rfl (by kernel_rfl) (by kernel_rfl) (by kernel_rfl) (fun _ _ _ h => h) (by rfl) (by intro w' hSw; (try dsimp only at hSw); go_simp; (try (with_reducible rfl))) (by assumption) ?_
              simp only [Act.put, List.setIfInBounds_toArray, List.set_cons_zero, List.set_cons_succ]
              refine wpAnyH_done (by kernel_rfl) ?_ _
              clear hHeld
              go_wp2_with fail
              go_meet
              exact ⟨wd.heap.size, k, s, O, er, A1, c1, rfl, rfl, by simpa using HNF.out, HRF.out.toRds, HVV.out, HQF.out, HVV.out.len64 (by have := HTL.out; omega)⟩
          case rest =>
            obtain ⟨N, k, s, O, er, A1, c1, rfl, rfl, hnv, hrx, hver, hq, hol⟩ := hcut
            have HNV := Lib.hid hnv
            have HRX := Lib.hid hrx
            have HE := Lib.hid hver.errs
            have HQ := Lib.hid hq
            clear hnv hrx hver hq
            obtain ⟨v1, hv1⟩ : ∃ v, p.right = v := ⟨_, rfl⟩
            have H1 := Lib.hid hv1
            clear hv1
            have cp := HQ.out.pb.cell
            go_wp2_with fail
            refine (rightV_any H1.out _ HPW.out).mono ?_; rintro e w8 ⟨rfl, hb⟩
            have HQ := Lib.hid (HQ.out.below hb)
            have HNV := Lib.hid (HNV.out.belowAll hb)
            have HRX := Lib.hid (HRX.out.below hb)
            clear hb cp
            cases v1
            · obtain ⟨rfl, rfl, rfl, rfl⟩ := HE.out.1 H1.out
              have y1 := HNV.out.cell
              go_wp2_with fail
              refine (same23_any 0 0 [] A1 none c1 0 _ HRX.out (Rds.nil _ _ _) (by simp)).mono ?_; rintro e wy ⟨rfl, hb⟩
              have HQ := Lib.hid (HQ.out.below hb)
              clear hb
              clear y1
              go_wp2_with fail
              go_ret
              exact ⟨rfl, HQ.out.bel⟩
            · cases v
              · by_cases hK : i = 64
                · subst hK
                  obtain ⟨rfl, rfl, rfl, rfl⟩ := HE.out.2.2.1 H1.out HH.out (by rw [HTL.out]; omega)
                  have y1 := HNV.out.cell
                  go_wp2_with fail
                  refine (same23_any 0 0 [] A1 none c1 0 _ HRX.out (Rds.nil _ _ _) (by simp)).mono ?_; rintro e wy ⟨rfl, hb⟩
                  have HQ := Lib.hid (HQ.out.below hb)
                  clear hb
                  clear y1
                  go_wp2_with fail
                  go_ret
                  exact ⟨rfl, HQ.out.bel⟩
                · obtain ⟨h0, h1, h4⟩ := HE.out.2.2.2 H1.out HH.out (by rw [HTL.out]; omega)
                  subst h0
                  have dK : ((i : Int) == 64) = false := by simp; omega
                  have dKn : (i == 64) = false := by simp; omega
                  have d1 : decide (1 ≤ k) = true := decide_eq_true h1
                  have d4 : decide (k ≤ 4) = true := decide_eq_true h4
                  have y1 := HNV.out.cell
                  go_wp2_with fail
                  go_ret
                  exact ⟨rfl, HQ.out.bel⟩
              · obtain ⟨rfl, rfl, rfl, rfl⟩ := HE.out.2.1 H1.out HH.out
                have y1 := HNV.out.cell
                go_wp2_with fail
                refine (same23_any 0 0 [] A1 none c1 0 _ HRX.out (Rds.nil _ _ _) (by simp)).mono ?_; rintro e wy ⟨rfl, hb⟩
                have HQ := Lib.hid (HQ.out.below hb)
                clear hb
                clear y1
                go_wp2_with fail
                go_ret
                exact ⟨rfl, HQ.out.bel⟩
end Go.Proofs.YtlhmhcidknadmaaDoor
