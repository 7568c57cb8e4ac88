/- slices.ContainsFunc with Decide's closure: is there an entry of that Id? -/
import Derived.Test.YtlhmhcidknadmaaDoorABarred
namespace Go.Proofs.YtlhmhcidknadmaaDoor
open Go.RowKit

def hasE (l : List En) (s : ByteArray) : Bool := l.any fun e => e.pod.id.toList == s.toList
theorem hasE_next (l : List En) (s : ByteArray) (k : Nat) (hk : k < l.length) : hasE (l.take (k + 1)) s = (hasE (l.take k) s || (l[k].pod.id.toList == s.toList)) := by
  unfold hasE
  rw [List.take_succ_eq_append_getElem hk, List.any_append]
  simp
theorem hasE_hit {l : List En} {s : ByteArray} {k : Nat} (hk : k < l.length) (h : (l[k].pod.id.toList == s.toList) = true) : hasE l s = true := List.any_eq_true.2 ⟨l[k], List.getElem_mem hk, h⟩
set_option maxRecDepth 100000 in
set_option maxHeartbeats 2000000 in
theorem closA_any (x : En) (p : Pd) (g : Nat) (w : World) {v : Bool} (hv : (x.pod.id.toList == p.id.toList) = v) (hg : Blk w g 29 p.cells) :
    Calls Tryd.prog 25 #[.agg x.cells, .pointer (some ⟨g, 0, none⟩)] w fun e w' => e = .returned (.bool v) ∧ Below w.heap.size w w' := by
  have HB := Lib.hid ((Below.refl w.heap.size w).alloc (Nat.le_refl _) (.cells x.cells 51))
  have c0 : (w.alloc (.cells x.cells 51)).cell? ⟨g, 0, none⟩ = some (.string p.id) := (hg.alloc _).cell 0
  have hlt := hg.lt
  clear hg
  go_enter Tryd.func25, Tryd.ntmps25
  go_wp2_with fail
  go_ret
  exact ⟨rfl, HB.out⟩
def GivesI (l : List En) (s : ByteArray) (w : World) (e : Ending) (w' : World) : Prop := ∃ z : Int, e = .returned (.int .i64 z) ∧ decide (0 ≤ z) = hasE l s ∧ Below w.heap.size w w'
set_option maxRecDepth 100000 in
set_option maxHeartbeats 4000000 in
theorem indexFunc_any (l : List En) (p : Pd) (g : Nat) (A : Option Addr) (c : Nat) (w : World) (hr : Rds w encN A l) (hn : l.length ≤ 9223372036854775807) (hg : Blk w g 29 p.cells) :
    Calls Tryd.prog 32 #[.slice A l.length c, .func (.func 25) #[] #[.pointer (some ⟨g, 0, none⟩)]] w (GivesI l p.id w) := by
  have HR := Lib.hid hr
  have HG := Lib.hid hg
  clear hr hg
  go_enter Tryd.func32, Tryd.ntmps32
  go_wp2_with fail
  go_loopw [5, 8] (fun xx ii wr => ∃ i : Nat, i ≤ l.length ∧ ii = .int .i64 i ∧ hasE (l.take i) p.id = false ∧ Below w.heap.size w wr) (fun _ ii _ => l.length - (intOf ii).toNat)
  case atStart => exact ⟨0, by omega, rfl, rfl, Below.refl _ _⟩
  case round =>
    obtain ⟨i, hi, rfl, hno, hbl⟩ := hrel
    have HNO := Lib.hid hno
    have HP := Lib.hid hbl
    clear hno hbl
    by_cases hlt : i < l.length
    · have dk : decide ((i : Int) < (l.length : Int)) = true := decide_eq_true (by omega)
      have dk2 : (i : Int) < (l.length : Int) := by omega
      obtain ⟨b, off, hA, _⟩ := HR.out.en hlt
      obtain rfl : A = some ⟨b, off, none⟩ := hA
      have HXI := Lib.hid (List.getElem?_eq_getElem hlt)
      have HNX := Lib.hid (hasE_next l p.id i hlt)
      have HHIT := Lib.hid (hasE_hit (s := p.id) hlt)
      generalize l[i] = x at *
      obtain ⟨x0, x1, x2, x3, x4, x5, x6, x7, x8, x9, x10, x11⟩ := HR.out.enAt HP.out HXI.out
      go_wp2_with fail
      cases hv : (x.pod.id.toList == p.id.toList)
      · have HN : Hid (hasE (l.take (i + 1)) p.id = false) := by show _ = _; rw [HNX.out, HNO.out, hv]; rfl
        refine (closA_any x p g _ hv (HG.out.belowAll HP.out)).mono ?_; rintro e w2 ⟨rfl, hb⟩
        have HP := Lib.hid (below_rV HP.out hb)
        clear hb hv x0 x1 x2 x3 x4 x5 x6 x7 x8 x9 x10 x11
        go_wp2_with fail
        go_roundw
        case rel => exact ⟨i + 1, by omega, by go_num, HN.out, HP.out⟩
        case measure => simp [intOf]; omega
      · have HN : Hid (hasE l p.id = true) := HHIT.out hv
        refine (closA_any x p g _ hv (HG.out.belowAll HP.out)).mono ?_; rintro e w2 ⟨rfl, hb⟩
        have HP := Lib.hid (below_rV HP.out hb)
        clear hb hv x0 x1 x2 x3 x4 x5 x6 x7 x8 x9 x10 x11
        go_wp2_with fail
        go_ret
        exact ⟨(i : Int), rfl, by rw [HN.out]; exact decide_eq_true (by omega), HP.out⟩
    · obtain rfl : i = l.length := by omega
      have dk : decide ((l.length : Int) < (l.length : Int)) = false := by simp
      rw [List.take_length] at HNO
      go_wp2_with fail
      go_ret
      exact ⟨-1, rfl, by rw [HNO.out]; rfl, HP.out⟩
set_option maxRecDepth 100000 in
theorem containsFunc_any (l : List En) (p : Pd) (g : Nat) (A : Option Addr) (c : Nat) (w : World) {v : Bool} (hv : hasE l p.id = v) (hr : Rds w encN A l) (hn : l.length ≤ 9223372036854775807) (hg : Blk w g 29 p.cells) :
    Calls Tryd.prog 24 #[.slice A l.length c, .func (.func 25) #[] #[.pointer (some ⟨g, 0, none⟩)]] w fun e w' => e = .returned (.bool v) ∧ Below w.heap.size w w' := by
  have HR := Lib.hid hr
  have HG := Lib.hid hg
  have HV := Lib.hid hv
  clear hr hg hv
  go_enter Tryd.func24, Tryd.ntmps24
  go_wp2_with fail
  refine (indexFunc_any l p g A c _ HR.out hn HG.out).mono ?_; rintro e w2 ⟨z, rfl, hz, hb⟩
  have HB := Lib.hid hb
  rw [HV.out] at hz
  clear hb
  go_wp2_with fail
  go_ret
  exact ⟨rfl, HB.out⟩
end Go.Proofs.YtlhmhcidknadmaaDoor
