/- bilgeref17.Right: may a raw sample be read? -/
import Derived.Test.YtampjkgkiooibaaDoorFew17
import Derived.Test.YtampjkgkiooibaaDoorRead3
namespace Go.Proofs.YtampjkgkiooibaaDoor
open Go.RowKit

structure K3 (a b c : Nat) : Prop where
  k0 : kindN a ≠ 1
  k1 : kindN b ≠ 1
  k2 : kindN c ≠ 1
structure OkAt (l : List Ug) (i : Nat) (hi : i < l.length) : Prop where
  k : K3 l[i].f0 l[i].f1 l[i].f2
  d : ∀ j (hj : j < i), l[j].id ≠ l[i].id
  n : named l[i].id.data.toList = true
def OkTo (l : List Ug) (k : Nat) : Prop := ∀ i (hi : i < l.length), i < k → OkAt l i hi
structure RightR (r : Rw) : Prop where
  len : r.uses.length ≤ 128
  k : K3 r.v0 r.v1 r.v2
  ok : OkTo r.uses r.uses.length
theorem OkTo.snoc {l : List Ug} {k : Nat} (hk : k < l.length) (h : OkTo l k) (a : K3 l[k].f0 l[k].f1 l[k].f2) (b : ∀ j (hj : j < k), l[j].id ≠ l[k].id) (c : named l[k].id.data.toList = true) : OkTo l (k + 1) := fun i hi h2 => by
  rcases Nat.lt_or_ge i k with h3 | h3
  · exact h i hi h3
  · obtain rfl : i = k := by omega
    exact ⟨a, b, c⟩
theorem RightR.no {r : Rw} {v : Bool} (hv : v = true ↔ RightR r) (h : ¬ RightR r) : v = false := by
  cases v
  · rfl
  · exact absurd (hv.1 rfl) h
theorem toList_ne {a b : ByteArray} (h : (a.toList == b.toList) = false) : a ≠ b := fun e => by subst e; simp at h
theorem namedV_any {s : ByteArray} {v : Bool} (hv : named s.data.toList = v) (w : World) (hs : s.size ≤ 9223372036854775807) : Calls Tryd.prog 33 #[.string s] w fun e w' => e = .returned (.bool v) ∧ w = w' := by subst hv; exact refNamed_any s w hs
theorem RQ.ugAt {t : Int} {v0 v1 v2 c b off : Nat} {l : List Ug} {w W : World} (h : RQ ⟨t, v0, v1, v2, some ⟨b, off, none⟩, l, c⟩ w W) {i : Nat} (hi : i < l.length) :
    W.cell? ⟨b, off + i * 4, none⟩ = some (.string l[i].id) ∧ W.cell? ⟨b, off + i * 4 + 1, none⟩ = some (.float .f64 l[i].f0) ∧ W.cell? ⟨b, off + i * 4 + 2, none⟩ = some (.float .f64 l[i].f1) ∧ W.cell? ⟨b, off + i * 4 + 3, none⟩ = some (.float .f64 l[i].f2) := by
  obtain ⟨b', off', hA, _, hc⟩ := h.rds.ug hi
  injection hA with hA
  injection hA with h1 h2
  subst h1 h2
  exact hc
set_option maxHeartbeats 8000000 in
theorem right17_walk {t : Int} {v0 v1 v2 c : Nat} {A : Option Addr} {l : List Ug} {v : Bool} (hv : v = true ↔ RightR ⟨t, v0, v1, v2, A, l, c⟩) (w : World) (hr : Rw.Wf ⟨t, v0, v1, v2, A, l, c⟩ w) :
    Calls Tryd.prog 14 #[.agg #[.int .i64 t, .float .f64 v0, .float .f64 v1, .float .f64 v2, .slice A l.length c]] w fun e w' => e = .returned (.bool v) ∧ Below w.heap.size w w' := by
  have HQ : Hid (RQ ⟨t, v0, v1, v2, A, l, c⟩ w (w.alloc (.cells #[.int .i64 t, .float .f64 v0, .float .f64 v1, .float .f64 v2, .slice A l.length c] 26))) := RQ.new _ w hr.rds
  have HV := Lib.hid hv
  have HU : Hid ((∀ g ∈ l, g.Wf) ∧ ∀ g ∈ l, g.id.size ≤ 9223372036854775807) := ⟨hr.us, hr.ids⟩
  have HW : Hid (v0 < 18446744073709551616 ∧ v1 < 18446744073709551616 ∧ v2 < 18446744073709551616) := ⟨hr.h0, hr.h1, hr.h2⟩
  have hm : l.length ≤ 9223372036854775807 := Nat.le_trans hr.len hr.cap
  clear hr hv
  go_enter Tryd.func14, Tryd.ntmps14
  have cb : ∀ i, (w.alloc (.cells #[.int .i64 t, .float .f64 v0, .float .f64 v1, .float .f64 v2, .slice A l.length c] 26)).cell? ⟨w.heap.size, i, none⟩ = (#[.int .i64 t, .float .f64 v0, .float .f64 v1, .float .f64 v2, .slice A l.length c] : Array Value)[i]? := HQ.out.box.cell
  by_cases hlen : 128 < l.length
  · have d1 : decide ((128 : Int) < (l.length : Int)) = true := decide_eq_true (by omega)
    have HN := Lib.hid (RightR.no HV.out fun h => by have : l.length ≤ 128 := h.len; omega)
    clear hlen
    go_wp2_with fail
    go_ret
    exact ⟨ret_bool HN.out.symm, HQ.out.bel⟩
  have d1 : decide ((128 : Int) < (l.length : Int)) = false := decide_eq_false (by omega)
  have hlen2 : l.length ≤ 128 := by omega
  clear hlen
  go_wp2_with fail
  clear cb
  go_loopw [3] (fun i wr => RQ ⟨t, v0, v1, v2, A, l, c⟩ w wr ∧ (i = .int .i64 0 ∨ (i = .int .i64 1 ∧ kindN v0 ≠ 1) ∨ (i = .int .i64 2 ∧ kindN v0 ≠ 1 ∧ kindN v1 ≠ 1) ∨ (i = .int .i64 3 ∧ K3 v0 v1 v2))) (fun i _ => 3 - (intOf i).toNat)
  case atStart => exact ⟨HQ.out, .inl rfl⟩
  case round =>
    clear HQ
    obtain ⟨hQ, hrel⟩ := hrel
    have HQ := Lib.hid hQ
    clear hQ
    have cb : ∀ i, wr.cell? ⟨w.heap.size, i, none⟩ = (#[.int .i64 t, .float .f64 v0, .float .f64 v1, .float .f64 v2, .slice A l.length c] : Array Value)[i]? := HQ.out.box.cell
    rcases hrel with hrel | hrel | hrel | hrel
    · obtain rfl := hrel
      have c0 : wr.cell? ⟨w.heap.size, 1, none⟩ = some (.float .f64 v0) := cb 1
      obtain ⟨kv, hkv⟩ : ∃ kv, kindN v0 = kv := ⟨_, rfl⟩
      have HK := Lib.hid (fun W => kindV_any HW.out.1 hkv W)
      by_cases hk1 : kv = 1
      · have b1 : (kv == 1) = true := by rw [hk1]; rfl
        have HN := Lib.hid (RightR.no HV.out fun h => h.k.k0 (hkv.trans hk1))
        clear hk1 hkv
        go_wp2_with fail
        refine (HK.out _).mono ?_; rintro e w6 ⟨rfl, rfl⟩
        go_wp2_with fail
        go_ret
        exact ⟨ret_bool HN.out.symm, HQ.out.bel⟩
      · have b1 : (kv == 1) = false := by rw [beq_eq_false_iff_ne]; exact hk1
        have P0 := Lib.hid (show kindN v0 ≠ 1 by rw [hkv]; exact hk1)
        clear hk1 hkv
        go_wp2_with fail
        refine (HK.out _).mono ?_; rintro e w6 ⟨rfl, rfl⟩
        go_wp2_with fail
        go_roundw
        case rel => exact ⟨HQ.out, .inr (.inl ⟨rfl, P0.out⟩)⟩
        case measure => simp [intOf]
    · obtain ⟨rfl, p0⟩ := hrel
      have P0 := Lib.hid p0
      clear p0
      have c1 : wr.cell? ⟨w.heap.size, 2, none⟩ = some (.float .f64 v1) := cb 2
      obtain ⟨kv, hkv⟩ : ∃ kv, kindN v1 = kv := ⟨_, rfl⟩
      have HK := Lib.hid (fun W => kindV_any HW.out.2.1 hkv W)
      by_cases hk1 : kv = 1
      · have b1 : (kv == 1) = true := by rw [hk1]; rfl
        have HN := Lib.hid (RightR.no HV.out fun h => h.k.k1 (hkv.trans hk1))
        clear hk1 hkv
        go_wp2_with fail
        refine (HK.out _).mono ?_; rintro e w6 ⟨rfl, rfl⟩
        go_wp2_with fail
        go_ret
        exact ⟨ret_bool HN.out.symm, HQ.out.bel⟩
      · have b1 : (kv == 1) = false := by rw [beq_eq_false_iff_ne]; exact hk1
        have P1 := Lib.hid (show kindN v1 ≠ 1 by rw [hkv]; exact hk1)
        clear hk1 hkv
        go_wp2_with fail
        refine (HK.out _).mono ?_; rintro e w6 ⟨rfl, rfl⟩
        go_wp2_with fail
        go_roundw
        case rel => exact ⟨HQ.out, .inr (.inr (.inl ⟨rfl, P0.out, P1.out⟩))⟩
        case measure => simp [intOf]
    · obtain ⟨rfl, p0, p1⟩ := hrel
      have P0 := Lib.hid p0
      clear p0
      have P1 := Lib.hid p1
      clear p1
      have c2 : wr.cell? ⟨w.heap.size, 3, none⟩ = some (.float .f64 v2) := cb 3
      obtain ⟨kv, hkv⟩ : ∃ kv, kindN v2 = kv := ⟨_, rfl⟩
      have HK := Lib.hid (fun W => kindV_any HW.out.2.2 hkv W)
      by_cases hk1 : kv = 1
      · have b1 : (kv == 1) = true := by rw [hk1]; rfl
        have HN := Lib.hid (RightR.no HV.out fun h => h.k.k2 (hkv.trans hk1))
        clear hk1 hkv
        go_wp2_with fail
        refine (HK.out _).mono ?_; rintro e w6 ⟨rfl, rfl⟩
        go_wp2_with fail
        go_ret
        exact ⟨ret_bool HN.out.symm, HQ.out.bel⟩
      · have b1 : (kv == 1) = false := by rw [beq_eq_false_iff_ne]; exact hk1
        have P2 := Lib.hid (show kindN v2 ≠ 1 by rw [hkv]; exact hk1)
        clear hk1 hkv
        go_wp2_with fail
        refine (HK.out _).mono ?_; rintro e w6 ⟨rfl, rfl⟩
        go_wp2_with fail
        go_roundw
        case rel => exact ⟨HQ.out, .inr (.inr (.inr ⟨rfl, P0.out, P1.out, P2.out⟩))⟩
        case measure => simp [intOf]
    · obtain ⟨rfl, hK⟩ := hrel
      have HK3 := Lib.hid hK
      clear hK cb
      go_wp2_with fail
      go_loopw [4] (fun i wq => ∃ k : Nat, k ≤ l.length ∧ i = .int .i64 k ∧ OkTo l k ∧ RQ ⟨t, v0, v1, v2, A, l, c⟩ w wq) (fun i _ => l.length - (intOf i).toNat)
      case atStart => exact ⟨0, by omega, rfl, fun i _ h => absurd h (by omega), HQ.out⟩
      case round =>
        clear HQ
        obtain ⟨k, hk, rfl, hO, hQ⟩ := hrel
        have HQ := Lib.hid hQ
        have HO := Lib.hid hO
        clear hQ hO
        have cb : ∀ i, wr.cell? ⟨w.heap.size, i, none⟩ = (#[.int .i64 t, .float .f64 v0, .float .f64 v1, .float .f64 v2, .slice A l.length c] : Array Value)[i]? := HQ.out.box.cell
        by_cases hlt : k < l.length
        · obtain ⟨b, off, hA, _, _, _, _, _⟩ := HQ.out.rds.ug hlt
          obtain rfl : A = some ⟨b, off, none⟩ := hA
          have dk : decide ((k : Int) < (l.length : Int)) = true := decide_eq_true (by omega)
          have dk3 : (k : Int) < (l.length : Int) := by omega
          have HWG := Lib.hid (HU.out.1 _ (List.getElem_mem hlt))
          have hgi := HU.out.2 _ (List.getElem_mem hlt)
          have HYes := Lib.hid (HO.out.snoc hlt)
          have HNoK := Lib.hid (fun h : RightR ⟨t, v0, v1, v2, some ⟨b, off, none⟩, l, c⟩ => (h.ok k hlt hlt).k)
          have HNoD := Lib.hid (fun h : RightR ⟨t, v0, v1, v2, some ⟨b, off, none⟩, l, c⟩ => (h.ok k hlt hlt).d)
          have HNoN := Lib.hid (fun h : RightR ⟨t, v0, v1, v2, some ⟨b, off, none⟩, l, c⟩ => (h.ok k hlt hlt).n)
          have HCell := Lib.hid (fun (W : World) (h : RQ ⟨t, v0, v1, v2, some ⟨b, off, none⟩, l, c⟩ w W) => h.ugAt hlt)
          clear cb
          generalize l[k] = g at *
          clear HO
          have cb : ∀ i, wr.cell? ⟨w.heap.size, i, none⟩ = (#[.int .i64 t, .float .f64 v0, .float .f64 v1, .float .f64 v2, .slice (some ⟨b, off, none⟩) l.length c] : Array Value)[i]? := HQ.out.box.cell
          go_wp2_with fail
          clear cb
          go_loopw [5] (fun i wp => RQ ⟨t, v0, v1, v2, some ⟨b, off, none⟩, l, c⟩ w wp ∧ (i = .int .i64 0 ∨ (i = .int .i64 1 ∧ kindN g.f0 ≠ 1) ∨ (i = .int .i64 2 ∧ kindN g.f0 ≠ 1 ∧ kindN g.f1 ≠ 1) ∨ (i = .int .i64 3 ∧ K3 g.f0 g.f1 g.f2))) (fun i _ => 3 - (intOf i).toNat)
          case atStart => exact ⟨HQ.out, .inl rfl⟩
          case round =>
            clear HQ
            obtain ⟨hQ, hrel⟩ := hrel
            have HQ := Lib.hid hQ
            clear hQ
            have cb : ∀ i, wr.cell? ⟨w.heap.size, i, none⟩ = (#[.int .i64 t, .float .f64 v0, .float .f64 v1, .float .f64 v2, .slice (some ⟨b, off, none⟩) l.length c] : Array Value)[i]? := HQ.out.box.cell
            obtain ⟨g0, g1, g2, g3⟩ := HCell.out _ HQ.out
            rcases hrel with hrel | hrel | hrel | hrel
            · obtain rfl := hrel
              obtain ⟨kv, hkv⟩ : ∃ kv, kindN g.f0 = kv := ⟨_, rfl⟩
              have HK := Lib.hid (fun W => kindV_any HWG.out.h0 hkv W)
              by_cases hk1 : kv = 1
              · have b1 : (kv == 1) = true := by rw [hk1]; rfl
                have HN := Lib.hid (RightR.no HV.out fun h => (HNoK.out h).k0 (hkv.trans hk1))
                clear hk1 hkv
                go_wp2_with fail
                refine (HK.out _).mono ?_; rintro e w6 ⟨rfl, rfl⟩
                go_wp2_with fail
                go_ret
                exact ⟨ret_bool HN.out.symm, HQ.out.bel⟩
              · have b1 : (kv == 1) = false := by rw [beq_eq_false_iff_ne]; exact hk1
                have P0 := Lib.hid (show kindN g.f0 ≠ 1 by rw [hkv]; exact hk1)
                clear hk1 hkv
                go_wp2_with fail
                refine (HK.out _).mono ?_; rintro e w6 ⟨rfl, rfl⟩
                go_wp2_with fail
                go_roundw
                case rel => exact ⟨HQ.out, .inr (.inl ⟨rfl, P0.out⟩)⟩
                case measure => simp [intOf]
            · obtain ⟨rfl, p0⟩ := hrel
              have P0 := Lib.hid p0
              clear p0
              obtain ⟨kv, hkv⟩ : ∃ kv, kindN g.f1 = kv := ⟨_, rfl⟩
              have HK := Lib.hid (fun W => kindV_any HWG.out.h1 hkv W)
              by_cases hk1 : kv = 1
              · have b1 : (kv == 1) = true := by rw [hk1]; rfl
                have HN := Lib.hid (RightR.no HV.out fun h => (HNoK.out h).k1 (hkv.trans hk1))
                clear hk1 hkv
                go_wp2_with fail
                refine (HK.out _).mono ?_; rintro e w6 ⟨rfl, rfl⟩
                go_wp2_with fail
                go_ret
                exact ⟨ret_bool HN.out.symm, HQ.out.bel⟩
              · have b1 : (kv == 1) = false := by rw [beq_eq_false_iff_ne]; exact hk1
                have P1 := Lib.hid (show kindN g.f1 ≠ 1 by rw [hkv]; exact hk1)
                clear hk1 hkv
                go_wp2_with fail
                refine (HK.out _).mono ?_; rintro e w6 ⟨rfl, rfl⟩
                go_wp2_with fail
                go_roundw
                case rel => exact ⟨HQ.out, .inr (.inr (.inl ⟨rfl, P0.out, P1.out⟩))⟩
                case measure => simp [intOf]
            · obtain ⟨rfl, p0, p1⟩ := hrel
              have P0 := Lib.hid p0
              clear p0
              have P1 := Lib.hid p1
              clear p1
              obtain ⟨kv, hkv⟩ : ∃ kv, kindN g.f2 = kv := ⟨_, rfl⟩
              have HK := Lib.hid (fun W => kindV_any HWG.out.h2 hkv W)
              by_cases hk1 : kv = 1
              · have b1 : (kv == 1) = true := by rw [hk1]; rfl
                have HN := Lib.hid (RightR.no HV.out fun h => (HNoK.out h).k2 (hkv.trans hk1))
                clear hk1 hkv
                go_wp2_with fail
                refine (HK.out _).mono ?_; rintro e w6 ⟨rfl, rfl⟩
                go_wp2_with fail
                go_ret
                exact ⟨ret_bool HN.out.symm, HQ.out.bel⟩
              · have b1 : (kv == 1) = false := by rw [beq_eq_false_iff_ne]; exact hk1
                have P2 := Lib.hid (show kindN g.f2 ≠ 1 by rw [hkv]; exact hk1)
                clear hk1 hkv
                go_wp2_with fail
                refine (HK.out _).mono ?_; rintro e w6 ⟨rfl, rfl⟩
                go_wp2_with fail
                go_roundw
                case rel => exact ⟨HQ.out, .inr (.inr (.inr ⟨rfl, P0.out, P1.out, P2.out⟩))⟩
                case measure => simp [intOf]
            · obtain ⟨rfl, hK⟩ := hrel
              have HKG := Lib.hid hK
              clear hK cb g0 g1 g2 g3
              go_wp2_with fail
              go_loopw [6] (fun i wp => ∃ j : Nat, j ≤ k ∧ i = .int .i64 j ∧ (∀ t (ht : t < j) (h2 : t < l.length), l[t].id ≠ g.id) ∧ RQ ⟨t, v0, v1, v2, some ⟨b, off, none⟩, l, c⟩ w wp) (fun i _ => k - (intOf i).toNat)
              case atStart => exact ⟨0, by omega, rfl, fun t ht => absurd ht (by omega), HQ.out⟩
              case round =>
                clear HQ
                obtain ⟨j, hj, rfl, hD, hQ⟩ := hrel
                have HQ := Lib.hid hQ
                have HD := Lib.hid hD
                clear hQ hD
                have cb : ∀ i, wr.cell? ⟨w.heap.size, i, none⟩ = (#[.int .i64 t, .float .f64 v0, .float .f64 v1, .float .f64 v2, .slice (some ⟨b, off, none⟩) l.length c] : Array Value)[i]? := HQ.out.box.cell
                obtain ⟨g0, g1, g2, g3⟩ := HCell.out _ HQ.out
                clear g1 g2 g3
                by_cases hjk : j < k
                · have hjl : j < l.length := by omega
                  have dj : decide ((j : Int) < (k : Int)) = true := decide_eq_true (by omega)
                  have dj3 : (j : Int) < (l.length : Int) := by omega
                  obtain ⟨t0, t1, t2, t3⟩ := HQ.out.ugAt hjl
                  clear t1 t2 t3
                  cases he : (l[j].id.toList == g.id.toList)
                  · have HD2 : Hid (∀ t (ht : t < j + 1) (h2 : t < l.length), l[t].id ≠ g.id) := fun t ht h2 => by
                      rcases Nat.lt_or_ge t j with h3 | h3
                      · exact HD.out t h3 h2
                      · obtain rfl : t = j := by omega
                        exact toList_ne he
                    generalize l[j] = u at *
                    go_wp2_with fail
                    go_quiet (fail)
                    go_wp2_with fail
                    go_roundw
                    case rel => exact ⟨j + 1, by omega, by go_num, HD2.out, HQ.out.quiet _⟩
                    case measure => simp [intOf]; omega
                  · have HN := Lib.hid (RightR.no HV.out fun h => HNoD.out h j hjk (toList_inj he))
                    generalize l[j] = u at *
                    go_wp2_with fail
                    go_quiet (fail)
                    go_wp2_with fail
                    go_ret
                    exact ⟨ret_bool HN.out.symm, (HQ.out.quiet _).bel⟩
                · obtain rfl : j = k := by omega
                  have dj : decide ((j : Int) < (j : Int)) = false := by simp
                  obtain ⟨nv, hnv⟩ : ∃ nv, named g.id.data.toList = nv := ⟨_, rfl⟩
                  have HM := Lib.hid (fun W => namedV_any hnv W hgi)
                  cases nv
                  · have HN := Lib.hid (RightR.no HV.out fun h => by have := HNoN.out h; rw [hnv] at this; cases this)
                    clear hnv
                    go_wp2_with fail
                    refine (HM.out _).mono ?_; rintro e w6 ⟨rfl, rfl⟩
                    go_wp2_with fail
                    go_ret
                    exact ⟨ret_bool HN.out.symm, HQ.out.bel⟩
                  · have HY := Lib.hid (HYes.out HKG.out (fun t ht => HD.out t ht (by omega)) hnv)
                    clear hnv
                    go_wp2_with fail
                    refine (HM.out _).mono ?_; rintro e w6 ⟨rfl, rfl⟩
                    go_wp2_with fail
                    go_roundw
                    case rel => exact ⟨j + 1, by omega, by go_num, HY.out, HQ.out⟩
                    case measure => simp [intOf]; omega
        · obtain rfl : k = l.length := by omega
          have HY := Lib.hid (HV.out.2 ⟨hlen2, HK3.out, HO.out⟩)
          have dk : decide ((l.length : Int) < (l.length : Int)) = false := by simp
          go_wp2_with fail
          go_ret
          exact ⟨ret_bool HY.out.symm, HQ.out.bel⟩
theorem right17V_any {r : Rw} {v : Bool} (hv : v = true ↔ RightR r) (w : World) (hr : r.Wf w) :
    Calls Tryd.prog 14 #[.agg r.cells] w fun e w' => e = .returned (.bool v) ∧ Below w.heap.size w w' := right17_walk hv w hr
end Go.Proofs.YtampjkgkiooibaaDoor
