/- bilgelaw12.PodKeeps: what is handed in stays; what is answered is new memory. -/
import Derived.Test.YtjngkmfkgbcjjaaDoorAwake
import Derived.Test.YtjngkmfkgbcjjaaDoorRefPut
import Derived.Test.YtjngkmfkgbcjjaaDoorRefRight
import Derived.Test.YtjngkmfkgbcjjaaDoorBack3
import Derived.Test.YtjngkmfkgbcjjaaDoorAgain
import Derived.Outline
import Derived.Laws.BitsLemmas
namespace Go.Proofs.YtjngkmfkgbcjjaaDoor
open Go.RowKit

theorem xor_u8 (y : UInt8) : bits .xor .u8 (y.toNat : Int) 255 = ((y ^^^ 255).toNat : Int) := by
  have h := y.toNat_lt
  show IntKind.u8.wrap ((BitVec.ofInt 8 (y.toNat : Int) ^^^ BitVec.ofInt 8 255).toNat : Int) = _
  have e1 : BitVec.ofInt 8 (y.toNat : Int) = y.toBitVec := by
    rw [BitVec.ofInt_natCast]; exact BitVec.ofNat_toNat 8 _ |>.trans (by simp)
  rw [e1]
  have e2 : BitVec.ofInt 8 255 = (255 : UInt8).toBitVec := rfl
  rw [e2, ← UInt8.toBitVec_xor]
  generalize y ^^^ 255 = z
  have hz := z.toNat_lt
  show IntKind.u8.wrap (z.toNat : Int) = _
  rw [IntKind.wrap_u8]
  omega
set_option maxHeartbeats 8000000 in
theorem keeps_any (p : Pd) (A : Option Addr) (l : List UInt8) (c : Nat) (w : World) (hp : p.Wf) (hr : Rds w encB A l) :
    Calls Tryd.prog 7 #[.agg p.cells, .slice A l.length c] w fun e w' => e = .returned (.bool true) ∧ Below w.heap.size w w' := by
  have HM := Lib.hid hr
  clear hr
  go_enter Tryd.func7, Tryd.ntmps7
  go_wp2_with fail
  refine (awake_any _).mono ?_; rintro e w0 ⟨rfl, hb0'⟩
  have hb0 := below_from ((Below.refl _ _).alloc (Nat.le_refl _) _) hb0'
  have HP0 := Lib.hid (And.intro ((Blk.new w 24 p.cells).belowAll hb0') (And.intro (HM.out.below hb0) (hb0)))
  have c0P := HP0.out.1.cell
  clear hb0 hb0' HM
  go_wp2_with fail
  refine (small_any p _).mono ?_; rintro e w1 ⟨rfl, hb1⟩
  have HP1 := Lib.hid (And.intro (HP0.out.1.belowAll hb1) (And.intro (HP0.out.2.1.below hb1) (HP0.out.2.2.trans (hb1.mono HP0.out.2.2.size))))
  clear c0P HP0 hb1
  have c1P := HP1.out.1.cell
  cases hcond : p.small
  case false =>
    clear hcond
    go_wp2_with fail
    refine (awake_any _).mono ?_; rintro e w2 ⟨rfl, hb2⟩
    have HP2 := Lib.hid (And.intro (HP1.out.1.belowAll hb2) (And.intro (HP1.out.2.1.below hb2) (HP1.out.2.2.trans (hb2.mono HP1.out.2.2.size))))
    clear c1P HP1 hb2
    go_wp2_with fail
    go_ret
    exact ⟨rfl, HP2.out.2.2⟩
  case true =>
    have HS := Lib.hid hcond
    clear hcond
    go_wp2_with fail
    refine (refRight_any p _ hp).mono ?_; rintro e w2 ⟨rfl, hb2⟩
    have HP2 := Lib.hid (And.intro (HP1.out.1.belowAll hb2) (And.intro (HP1.out.2.1.below hb2) (HP1.out.2.2.trans (hb2.mono HP1.out.2.2.size))))
    clear c1P HP1 hb2
    have c2P := HP2.out.1.cell
    cases hcond : p.right
    case false =>
      clear hcond
      go_wp2_with fail
      refine (awake_any _).mono ?_; rintro e w3 ⟨rfl, hb3⟩
      have HP3 := Lib.hid (And.intro (HP2.out.1.belowAll hb3) (And.intro (HP2.out.2.1.below hb3) (HP2.out.2.2.trans (hb3.mono HP2.out.2.2.size))))
      clear c2P HP2 hb3
      go_wp2_with fail
      go_ret
      exact ⟨rfl, HP3.out.2.2⟩
    case true =>
      have HR := Lib.hid hcond
      clear hcond
      by_cases hcond : 300 < l.length
      · have hl3 : (300 : Int) < (l.length : Int) := by omega
        clear hcond
        go_wp2_with fail
        refine (awake_any _).mono ?_; rintro e w3 ⟨rfl, hb3⟩
        have HP3 := Lib.hid (And.intro (HP2.out.1.belowAll hb3) (And.intro (HP2.out.2.1.below hb3) (HP2.out.2.2.trans (hb3.mono HP2.out.2.2.size))))
        clear c2P HP2 hb3
        go_wp2_with fail
        go_ret
        exact ⟨rfl, HP3.out.2.2⟩
      · have hl3 : (l.length : Int) ≤ 300 := by omega
        have hlen : l.length ≤ 300 := by omega
        clear hcond
        go_wp2_with fail
        refine (put_yes p _ hp HR.out).mono ?_; rintro e w3 ⟨A1, k1, rfl, hO, hb3⟩
        have HP3 := Lib.hid (And.intro (hO.mono HP2.out.2.2.size) (And.intro (HP2.out.1.belowAll hb3) (And.intro (HP2.out.2.1.below hb3) (HP2.out.2.2.trans (hb3.mono HP2.out.2.2.size)))))
        clear c2P HP2 hb3 hO
        have c3P := HP3.out.2.1.cell
        have hbl := (Pd.bytes_len_le p HR.out).1
        have hown0 : Own (w3.alloc (.cells #[] 5)) w3.heap.size 5 encB (.slice (some ⟨w3.heap.size, 0, none⟩) 0 0) [] := Own.made w3 w3.heap.size 5 encB [] #[] rfl (Nat.le_refl _) (by simp)
        have hbel0 : Below w3.heap.size w3 (w3.alloc (.cells #[] 5)) := (Below.refl _ _).alloc (Nat.le_refl _) _
        have HW := Lib.hid (And.intro hown0 hbel0)
        clear hown0 hbel0
        go_wp2_with (first
          | (at_builtin; refine wl_app elemB encB rfl (.tmp 36) (.tmp 37) rfl w3.heap.size _ [] rfl HW.out.1 A1 p.bytes k1 rfl (HP3.out.1.toRds.below HW.out.2) (by simp; omega) (by simp; omega) (by simp) ?_; intro A3 k3 w4 hown3 hgrow3 _; have hbel3 := HW.out.1.belowGrown HW.out.2 hgrow3 (Nat.le_refl _) HW.out.2.size; rw [List.length_nil, Nat.zero_add, List.nil_append] at hown3; have HX3 := Lib.hid (And.intro hown3 hbel3); clear hown3 hgrow3 hbel3)
          | (at_builtin; refine wl_app elemB encB rfl (.tmp 38) (.tmp 39) rfl w3.heap.size _ p.bytes rfl HX3.out.1 A l c rfl (HP3.out.2.2.1.below HX3.out.2) (by omega) (by omega) HX3.out.2.size ?_; intro A4 k4 w5 hown4 hgrow4 _; have hbel4 := HX3.out.1.belowGrown HX3.out.2 hgrow4 (Nat.le_refl _) HX3.out.2.size; have HX4 := Lib.hid (And.intro hown4 hbel4); clear hown4 hgrow4 hbel4; have HW6 := Lib.hid (And.intro (show Own (w5.alloc (.cells #[] 5)) w5.heap.size 5 encB (.slice (some ⟨w5.heap.size, 0, none⟩) 0 0) [] from Own.made w5 w5.heap.size 5 encB [] #[] rfl (Nat.le_refl _) (by simp)) (show Below w5.heap.size w5 (w5.alloc (.cells #[] 5)) from (Below.refl _ _).alloc (Nat.le_refl _) _)))
          | (at_builtin; refine wl_app elemB encB rfl (.tmp 41) (.tmp 42) rfl w5.heap.size _ [] rfl HW6.out.1 A4 (p.bytes ++ l) k4 (by rw [List.length_append]; rfl) (HX4.out.1.toRds.below HW6.out.2) (by simp; omega) (by simp; omega) (by simp) ?_; intro A5 k5 w6 hown5 hgrow5 _; have hbel5 := HW6.out.1.belowGrown HW6.out.2 hgrow5 (Nat.le_refl _) HW6.out.2.size; rw [List.length_nil, Nat.zero_add, List.nil_append] at hown5; have HX5 := Lib.hid (And.intro hown5 hbel5); clear hown5 hgrow5 hbel5))
        have hb6 := HX4.out.2.trans (HX5.out.2.mono HX4.out.2.size)
        have HP4 := Lib.hid (And.intro (HX5.out.1) (And.intro (HX4.out.1.below HX5.out.2 (Nat.le_refl _)) (And.intro (HP3.out.1.below hb6 (Nat.le_refl _)) (And.intro (HP3.out.2.1.belowAll hb6) (And.intro (HP3.out.2.2.1.below hb6) (HP3.out.2.2.2.trans (hb6.mono HP3.out.2.2.2.size)))))))
        clear c3P HP3 hb6 HW HX3 HX4 HX5 HW6
        have c4P := HP4.out.2.2.2.1.cell
        have hcut := cut_some (p := p) (rest := l) A4 k4 (p.bytes ++ l) w6 HP4.out.2.1.toRds (by have := HP4.out.2.1.cap; omega) (by have := HP4.out.2.1.cap; omega) (by rw [List.length_append]; omega) (cut_bytes p hp HR.out l)
        rw [List.length_append] at hcut
        refine hcut.mono ?_; rintro e w7 ⟨A6, k6, rfl, hO7, hb7⟩
        have HO7 := Lib.hid (And.intro hO7 hb7)
        clear hO7 hb7 hcut c4P
        go_wp2_with (refine wl_store_blk rfl 24 (.tmp 9) (.tmp 47) rfl w7.heap.size 24 zeroPod p.cells rfl rfl (Blk.new _ _ _) rfl infoPod (cells_one p) ?_; intro w8 hQ8 hg8 hs8; have hb8 := ((Below.refl w7.heap.size w7).alloc (Nat.le_refl _) (.cells zeroPod 24)).grown hg8 (by simp) (by intro k hk; cases hk; exact Nat.le_refl _); have HO8 := Lib.hid (And.intro (HO7.out.1.below hb8 (Nat.le_refl _)) (HO7.out.2.trans (hb8.mono HO7.out.2.size))); clear hQ8 hg8 hs8 hb8)
        have HSX : ∀ (wr : World), Below w6.heap.size w6 wr → Calls Tryd.prog 16 #[.slice A4 (p.bytes.length + l.length) k4, .slice A5 (p.bytes.length + l.length) k5] wr fun e w' => e = .returned (.bool true) ∧ wr = w' := by
          intro wr hB
          have hs := same_any A4 A5 (p.bytes ++ l) (p.bytes ++ l) k4 k5 wr ((HP4.out.2.1.toRds).below hB) ((HP4.out.1.toRds).below hB)
          rw [beq_self_eq_true, List.length_append] at hs
          exact hs
        have HBX : ∀ (wr : World), Below w6.heap.size w6 wr → Below w.heap.size w wr := fun wr hB => HP4.out.2.2.2.2.2.trans (hB.mono HP4.out.2.2.2.2.2.size)
        have HSX' := Lib.hid HSX
        have HBX' := Lib.hid HBX
        clear HSX HBX
        rcases HO8.out.1.2 with ⟨hv, h0⟩ | ⟨g, cap, cur, hv, hge, hgb, hn, hmm, hcs, htk⟩
        · obtain rfl : l = [] := List.eq_nil_of_length_eq_zero h0
          clear hv h0
          go_loopw [12] (fun i wr => i = .int .i64 0 ∧ Below w6.heap.size w6 wr) (fun _ _ => 0)
          case atStart => exact ⟨rfl, HO8.out.2⟩
          case round =>
            obtain ⟨rfl, hB⟩ := hrel
            have HB := Lib.hid hB
            clear hB
            go_wp2_with fail
            have h2 := HSX'.out
            simp only [List.length_nil, Nat.add_zero] at h2
            (with_reducible first | refine (HSX'.out _ HB.out).mono ?_ | refine (h2 _ HB.out).mono ?_); rintro e w9 ⟨rfl, rfl⟩
            clear h2
            go_wp2_with fail
            go_ret
            exact ⟨rfl, HBX'.out _ HB.out⟩
        · have hcur : ∀ j, j < l.length → ∃ y : UInt8, cur[j]? = some (.int .u8 y.toNat) := by
            intro j hj
            have h1 : (cur.toList.take (l.length * 1))[j]? = (encB.all l)[j]? := by rw [htk]
            rw [List.getElem?_take_of_lt (by omega), encB_all, List.getElem?_map, List.getElem?_eq_getElem hj] at h1
            exact ⟨l[j], by simpa using h1⟩
          injection hv with hv1 hv2 hv3
          subst hv1
          have hG : Blk w8 g 5 cur := hgb
          have HG := Lib.hid (And.intro hG (And.intro hcur HO8.out.2))
          have hge6 : w6.heap.size ≤ g := hge
          clear hG hcur hgb htk hcs HO8 hge
          go_loopw [12] (fun i wr => ∃ (k : Nat) (cu : Array Value), k ≤ l.length ∧ i = .int .i64 k ∧ Blk wr g 5 cu ∧ (∀ j, j < l.length → ∃ y : UInt8, cu[j]? = some (.int .u8 y.toNat)) ∧ Below w6.heap.size w6 wr) (fun i _ => l.length - (intOf i).toNat)
          case atStart => exact ⟨0, cur, by omega, rfl, HG.out.1, HG.out.2.1, HG.out.2.2⟩
          case round =>
            obtain ⟨k, cu, hk, rfl, hG, hcu, hB⟩ := hrel
            have HB := Lib.hid (And.intro hG (And.intro hcu hB))
            clear hG hcu hB HG
            by_cases hlt : k < l.length
            · have dk : decide ((k : Int) < (l.length : Int)) = true := decide_eq_true (by omega)
              have dk2 : (k : Int) < (l.length : Int) := by omega
              obtain ⟨y, hy⟩ := HB.out.2.1 k hlt
              have ck : wr.cell? ⟨g, k, none⟩ = some (.int .u8 y.toNat) := (HB.out.1.cell k).trans hy
              have fk : wr.frozen? ⟨g, k, none⟩ = false := HB.out.1.frozen k
              have hx := xor_u8 y
              have hnext : ∃ cu' : Array Value, Blk (wr.setCell ⟨g, k, none⟩ (.int .u8 (y ^^^ 255).toNat)) g 5 cu' ∧ (∀ j, j < l.length → ∃ y : UInt8, cu'[j]? = some (.int .u8 y.toNat)) ∧ Below w6.heap.size w6 (wr.setCell ⟨g, k, none⟩ (.int .u8 (y ^^^ 255).toNat)) := by
                refine ⟨_, HB.out.1.set_ k _, fun j hj => ?_, HB.out.2.2.setCell (by exact hge6) _⟩
                by_cases hjk : j = k
                · subst hjk
                  obtain ⟨z, hz⟩ := HB.out.2.1 j hj
                  have hsz := (Array.getElem?_eq_some_iff.1 hz).1
                  exact ⟨y ^^^ 255, by simp [hsz]⟩
                · obtain ⟨z, hz⟩ := HB.out.2.1 j hj
                  exact ⟨z, by rw [Array.getElem?_setIfInBounds_ne (by omega)]; exact hz⟩
              have HN := Lib.hid hnext
              clear hnext hy
              go_wp2_with fail
              go_roundw
              case rel =>
                obtain ⟨cu', h1, h2, h3⟩ := HN.out
                rw [UInt8.toNat_xor] at h1 h3
                exact ⟨k + 1, cu', by omega, by go_num, h1, h2, h3⟩
              case measure => simp [intOf]; omega
            · obtain rfl : k = l.length := by omega
              have dk : decide ((l.length : Int) < (l.length : Int)) = false := by simp
              go_wp2_with fail
              refine (HSX'.out _ HB.out.2.2).mono ?_; rintro e w9 ⟨rfl, rfl⟩
              go_wp2_with fail
              go_ret
              exact ⟨rfl, HBX'.out _ HB.out.2.2⟩
end Go.Proofs.YtjngkmfkgbcjjaaDoor
