/- sample.alone: all names are, and none stands twice. -/
import Derived.Test.YtampjkgkiooibaaDoorPodN
import Derived.Test.YtampjkgkiooibaaDoorRight17
namespace Go.Proofs.YtampjkgkiooibaaDoor
open Go.RowKit

abbrev zeroU : Array Value := #[.string ⟨#[]⟩, .float .f64 0, .float .f64 0, .float .f64 0]
theorem szG : (Tryd.prog.info? 47).map (·.size) = some 4 := by kernel_rfl
theorem ug_one (g : Ug) : g.cells.all (·.oneCell') = true := by simp [Value.oneCell']
/-- up to k: all named, none twice -/
def AlTo (l : List Ug) (k : Nat) : Prop := ∀ i (hi : i < l.length), i < k → named l[i].id.data.toList = true ∧ ∀ j (hj : j < i), l[j].id ≠ l[i].id
theorem AlTo.snoc {l : List Ug} {k : Nat} (hk : k < l.length) (h : AlTo l k) (c : named l[k].id.data.toList = true) (b : ∀ j (hj : j < k), l[j].id ≠ l[k].id) : AlTo l (k + 1) := fun i hi h2 => by
  rcases Nat.lt_or_ge i k with h3 | h3
  · exact h i hi h3
  · obtain rfl : i = k := by omega
    exact ⟨c, b⟩
theorem al_no {l : List Ug} {v : Bool} (hv : v = true ↔ AlTo l l.length) (h : ¬ AlTo l l.length) : v = false := by
  cases v
  · rfl
  · exact absurd (hv.1 rfl) h
theorem below_rV {w w0 w' : World} (h0 : Below w.heap.size w w0) (hb : Below w0.heap.size w0 w') : Below w.heap.size w w' := h0.trans (hb.mono h0.size)
theorem namedP_any {s : ByteArray} {v : Bool} (hv : named s.data.toList = v) (w : World) (hs : s.size ≤ 9223372036854775807) : Calls Tryd.prog 39 #[.string s] w fun e w' => e = .returned (.bool v) ∧ Below w.heap.size w w' := by subst hv; exact named_any s w hs
set_option maxRecDepth 100000 in
set_option maxHeartbeats 8000000 in
theorem alone_any {l : List Ug} {v : Bool} (hv : v = true ↔ AlTo l l.length) (A : Option Addr) (c : Nat) (w : World) (hr : Rds w encG A l) (hm : l.length ≤ 9223372036854775807) (hc : l.length ≤ c) (hi : ∀ g ∈ l, g.id.size ≤ 9223372036854775807) :
    Calls Tryd.prog 29 #[.slice A l.length c] w fun e w' => e = .returned (.bool v) ∧ Below w.heap.size w w' := by
  have HR := Lib.hid hr
  have HV := Lib.hid hv
  have HI := Lib.hid hi
  clear hr hv hi
  go_enter Tryd.func29, Tryd.ntmps29
  go_wp2_with fail
  go_step3
  go_wp2_with fail
  go_step3
  go_wp2_with fail
  go_loopw [10, 3] (fun i t wr => ∃ k : Nat, k ≤ l.length ∧ i = .int .i64 k ∧ t = .bool true ∧ AlTo l k ∧ Below w.heap.size w wr) (fun i _ _ => l.length - (intOf i).toNat)
  case atStart => exact ⟨0, by omega, rfl, rfl, fun i _ h => by omega, Below.refl _ _⟩
  case round =>
    obtain ⟨k, hk, rfl, rfl, ha, hb⟩ := hrel
    have HA := Lib.hid ha
    have HB := Lib.hid hb
    clear ha hb
    by_cases hlt : k < l.length
    · have dk : decide ((k : Int) < (l.length : Int)) = true := decide_eq_true (by omega)
      have dk2 : (k : Int) < (l.length : Int) := by omega
      obtain ⟨b, off, rfl, hbl, c0, c1, c2, c3⟩ := (HR.out.below HB.out).ug hlt
      have hgi := HI.out _ (List.getElem_mem hlt)
      have HYes := Lib.hid (HA.out.snoc hlt)
      have HNoN := Lib.hid (fun h : AlTo l l.length => (h k hlt hlt).1)
      have HNoD := Lib.hid (fun h : AlTo l l.length => (h k hlt hlt).2)
      generalize l[k] = g at *
      have HU0 := Lib.hid (Blk.new wr 47 zeroU)
      have HB0 := Lib.hid HB.out.size
      have HB := Lib.hid (HB.out.alloc HB.out.size (.cells zeroU 47))
      obtain ⟨vn, hvn⟩ : ∃ v, named g.id.data.toList = v := ⟨_, rfl⟩
      have HVN := Lib.hid hvn
      clear hvn
      go_wp2_with (refine wl_store_blk rfl 47 (.tmp 5) (.tmp 14) rfl wr.heap.size 47 zeroU g.cells rfl rfl HU0.out rfl szG (ug_one g) ?_; intro w1 hU1 hg1 hs1; have HU := Lib.hid hU1; have HB := Lib.hid (HB.out.grown hg1 HB.out.size (by intro k hk; cases hk; exact HB0.out)); have cu : ∀ i, w1.cell? ⟨wr.heap.size, i, none⟩ = (#[.string g.id, .float .f64 g.f0, .float .f64 g.f1, .float .f64 g.f2] : Array Value)[i]? := HU.out.cell; clear hU1 hg1 hs1)
      refine (namedP_any HVN.out _ hgi).mono ?_; rintro e w2 ⟨rfl, hb⟩
      have HU := Lib.hid (HU.out.belowAll hb)
      have HB := Lib.hid (below_rV HB.out hb)
      clear hb cu c0 c1 c2 c3
      cases vn
      · obtain rfl : v = false := al_no HV.out fun h => by have := HNoN.out h; rw [HVN.out] at this; cases this
        go_wp2_with fail
        (try rw [Exit.noGoto_ret])
        go_ret
        exact ⟨rfl, HB.out⟩
      · go_wp2_with fail
        clear HU0 HB0
        generalize wr.heap.size = n0 at *
        go_loopw [24, 3] (fun j t wq => ∃ jj : Nat, jj ≤ k ∧ j = .int .i64 jj ∧ t = .bool true ∧ (∀ j (hj : j < jj) (hk : jj ≤ k), l[j].id ≠ g.id) ∧ Blk wq n0 47 g.cells ∧ Below w.heap.size w wq ∧ n0 < wq.heap.size) (fun j _ _ => k - (intOf j).toNat)
        case atStart => exact ⟨0, by omega, rfl, rfl, fun j h _ => by omega, HU.out, HB.out, HU.out.lt⟩
        case round =>
          clear HB HU
          obtain ⟨jj, hjj, rfl, rfl, hd, hu, hb, hsz⟩ := hrel
          have HD := Lib.hid hd
          have HU := Lib.hid hu
          have HB := Lib.hid hb
          have HSZ := Lib.hid hsz
          clear hd hu hb hsz
          by_cases hlj : jj < k
          · have dj : decide ((jj : Int) < (k : Int)) = true := decide_eq_true (by omega)
            have dj2 : (jj : Int) < (k : Int) := by omega
            obtain ⟨b', off', hbo, _, c0, c1, c2, c3⟩ := (HR.out.below HB.out).ug (show jj < l.length by omega)
            cases hbo
            have HNE := Lib.hid (fun (h : l[jj].id = g.id) (ha : AlTo l l.length) => HNoD.out ha jj hlj h)
            have HST := Lib.hid (fun (h : l[jj].id ≠ g.id) => (fun j (hj : j < jj + 1) (hk' : jj + 1 ≤ k) => by
              rcases Nat.lt_or_ge j jj with h3 | h3
              · exact HD.out j h3 hjj
              · obtain rfl : j = jj := by omega
                exact h : ∀ j (hj : j < jj + 1) (hk' : jj + 1 ≤ k), l[j].id ≠ g.id))
            generalize l[jj] = x at *
            have HX0 := Lib.hid (Blk.new wr 47 zeroU)
            have HU2 := Lib.hid (HU.out.alloc (.cells zeroU 47))
            have HB1 := Lib.hid HB.out.size
            have HB2 := Lib.hid (HB.out.alloc HB.out.size (.cells zeroU 47))
            cases hxe : (g.id.toList == x.id.toList)
            · have HXE := Lib.hid (fun e : x.id = g.id => toList_ne hxe e.symm)
              go_wp2_with (refine wl_store_blk rfl 47 (.tmp 7) (.tmp 27) rfl wr.heap.size 47 zeroU x.cells rfl rfl HX0.out rfl szG (ug_one x) ?_; intro w3 hU1 hg1 hs1; have HU := Lib.hid (HU2.out.grown hg1 (by have := HSZ.out; intro e; injection e with e; omega)); have HB := Lib.hid (HB2.out.grown hg1 HB2.out.size (by intro k hk; cases hk; exact HB1.out)); have HSW := Lib.hid hs1; have hX1 := hU1; have cug : ∀ i, w3.cell? ⟨n0, i, none⟩ = (#[.string g.id, .float .f64 g.f0, .float .f64 g.f1, .float .f64 g.f2] : Array Value)[i]? := HU.out.cell; have cux : ∀ i, w3.cell? ⟨wr.heap.size, i, none⟩ = (#[.string x.id, .float .f64 x.f0, .float .f64 x.f1, .float .f64 x.f2] : Array Value)[i]? := hX1.cell; clear hU1 hg1 hs1 hX1)
              go_roundw
              case rel => exact ⟨jj + 1, by omega, by go_num, rfl, HST.out HXE.out, HU.out, HB.out, HU.out.lt⟩
              case measure => simp [intOf]; omega
            · obtain rfl : v = false := al_no HV.out fun h => HNE.out (toList_inj hxe).symm h
              go_wp2_with (refine wl_store_blk rfl 47 (.tmp 7) (.tmp 27) rfl wr.heap.size 47 zeroU x.cells rfl rfl HX0.out rfl szG (ug_one x) ?_; intro w3 hU1 hg1 hs1; have HU := Lib.hid (HU2.out.grown hg1 (by have := HSZ.out; intro e; injection e with e; omega)); have HB := Lib.hid (HB2.out.grown hg1 HB2.out.size (by intro k hk; cases hk; exact HB1.out)); have hX1 := hU1; have cug : ∀ i, w3.cell? ⟨n0, i, none⟩ = (#[.string g.id, .float .f64 g.f0, .float .f64 g.f1, .float .f64 g.f2] : Array Value)[i]? := HU.out.cell; have cux : ∀ i, w3.cell? ⟨wr.heap.size, i, none⟩ = (#[.string x.id, .float .f64 x.f0, .float .f64 x.f1, .float .f64 x.f2] : Array Value)[i]? := hX1.cell; clear hU1 hg1 hs1 hX1)
              (try rw [Exit.noGoto_ret])
              go_ret
              exact ⟨rfl, HB.out⟩
          · obtain rfl : jj = k := by omega
            have dj : decide ((jj : Int) < (jj : Int)) = false := by simp
            have HY := Lib.hid (HYes.out HVN.out (fun j hj => HD.out j hj (Nat.le_refl _)))
            go_wp2_with fail
            go_roundw
            case rel => exact ⟨jj + 1, by omega, by go_num, rfl, HY.out, HB.out⟩
            case measure => simp [intOf]; omega
    · obtain rfl : k = l.length := by omega
      have dk : decide ((l.length : Int) < (l.length : Int)) = false := by simp
      obtain rfl : v = true := HV.out.2 HA.out
      go_wp2_with fail
      (try rw [Exit.noGoto_ret])
      go_ret
      exact ⟨rfl, HB.out⟩
end Go.Proofs.YtampjkgkiooibaaDoor
