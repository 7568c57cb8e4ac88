/- bilgeref15's Put and Touch. -/
import Derived.Test.YtfaklhdafpbkmaaImgRef
namespace Go.Proofs.Ytfaklhdafpbkmaa
open Go.RowKit

def RP (l : List Im) (s : ByteArray) (size r : Int) (k : Nat) : List Im := if k ≤ lowerI l s then l.take k else (putOf l s size r).take (k + (if isAt l s then 0 else 1))
section
variable {l : List Im} {s : ByteArray} {size r : Int} {k : Nat}
theorem RP_low (h : k ≤ lowerI l s) : RP l s size r k = l.take k := by unfold RP; rw [if_pos h]
theorem RP_lo (h : k < lowerI l s) (hk : k < l.length) : RP l s size r (k + 1) = RP l s size r k ++ [l[k]] := by
  rw [RP_low (by omega), RP_low (by omega), List.take_succ_eq_append_getElem hk]
theorem RP_at (hat : isAt l s = true) (hi : lowerI l s < l.length) : RP l s size r (lowerI l s + 1) = RP l s size r (lowerI l s) ++ [late l[lowerI l s] r] := by
  rw [RP_low (Nat.le_refl _)]
  unfold RP
  rw [if_neg (by omega), if_pos hat, Nat.add_zero, putOf_yes hat, setLast_at hi, List.take_succ_eq_append_getElem (by simpa using hi), List.take_set_of_le (Nat.le_refl _), List.getElem_set_self]
theorem RP_new (hat : isAt l s = false) (hi : lowerI l s < l.length) : RP l s size r (lowerI l s + 1) = (RP l s size r (lowerI l s) ++ [⟨s, size, r⟩]) ++ [l[lowerI l s]] := by
  rw [RP_low (Nat.le_refl _)]
  unfold RP
  rw [if_neg (by omega), hat, if_neg (by simp), putOf_no hat]
  unfold insI
  have hl : (l.take (lowerI l s)).length = lowerI l s := by rw [List.length_take]; omega
  rw [List.drop_eq_getElem_cons hi]
  have e : l.take (lowerI l s) ++ (⟨s, size, r⟩ : Im) :: l[lowerI l s] :: l.drop (lowerI l s + 1) = (l.take (lowerI l s) ++ [⟨s, size, r⟩] ++ [l[lowerI l s]]) ++ l.drop (lowerI l s + 1) := by simp
  rw [e]
  exact List.take_left' (by rw [List.length_append, List.length_append, hl]; rfl)
theorem RP_up (h : lowerI l s < k) : RP l s size r k = (putOf l s size r).take (k + (if isAt l s then 0 else 1)) := by unfold RP; rw [if_neg (show ¬ (k ≤ lowerI l s) by omega)]
theorem RP_hi (h : lowerI l s < k) (hk : k < l.length) : RP l s size r (k + 1) = RP l s size r k ++ [l[k]] := by
  rw [RP_up h, RP_up (show lowerI l s < k + 1 by omega)]
  cases hat : isAt l s
  · rw [if_neg (by simp), putOf_no hat, Nat.add_right_comm]
    have hle := lowerI_le l s
    have hn := insI_len l (lowerI l s) ⟨s, size, r⟩ hle
    have hlt : k + 1 < (insI l (lowerI l s) ⟨s, size, r⟩).length := by rw [hn]; omega
    rw [List.take_succ_eq_append_getElem hlt]
    have e : (insI l (lowerI l s) ⟨s, size, r⟩)[k + 1]? = some l[k] := by
      unfold insI
      have hl : (l.take (lowerI l s)).length = lowerI l s := by rw [List.length_take]; omega
      rw [List.getElem?_append_right (by rw [hl]; omega), hl, show k + 1 - lowerI l s = (k - lowerI l s) + 1 by omega, List.getElem?_cons_succ, List.getElem?_drop, show lowerI l s + (k - lowerI l s) = k by omega, List.getElem?_eq_getElem hk]
    rw [List.getElem?_eq_getElem hlt] at e
    injection e with e
    rw [e]
  · rw [if_pos rfl]
    simp only [Nat.add_zero]
    rw [putOf_yes hat, setLast_at (show lowerI l s < l.length by omega), List.take_succ_eq_append_getElem (show k < (l.set (lowerI l s) (late l[lowerI l s] r)).length by simpa using hk), List.getElem_set_ne (show lowerI l s ≠ k by omega)]
theorem RP_done (h : lowerI l s < l.length) : RP l s size r l.length = putOf l s size r := by
  unfold RP
  rw [if_neg (by omega)]
  cases hat : isAt l s
  · rw [if_neg (by simp), putOf_no hat]
    exact List.take_of_length_le (by rw [insI_len _ _ _ (lowerI_le l s)]; omega)
  · rw [if_pos rfl, putOf_yes hat]
    exact List.take_of_length_le (by rw [setLast_len]; omega)
theorem RP_end (h : lowerI l s = l.length) : RP l s size r l.length ++ [⟨s, size, r⟩] = putOf l s size r := by
  have hat : isAt l s = false := by unfold isAt; rw [h, List.getElem?_eq_none (Nat.le_refl _)]
  rw [RP_low (by omega), putOf_no hat, h]
  unfold insI
  simp
theorem RP_len (l : List Im) (s : ByteArray) (size r : Int) (k : Nat) : (RP l s size r k).length ≤ k + 1 := by
  unfold RP
  split
  · rw [List.length_take]; omega
  · rw [List.length_take]; split <;> omega
end
set_option maxHeartbeats 4000000 in
theorem refPut_any (l : List Im) (s : ByteArray) (size r : Int) (A : Option Addr) (c : Nat) (w : World) (hr : Rds w encI A l) (hl : l.length ≤ 100000) (hs : SortedN l) :
    Calls Try.prog 46 #[.slice A l.length c, .string s, .int .i64 size, .int .i64 r] w (GivesIms (putOf l s size r) w) := by
  have HR := Lib.hid hr
  have HS := Lib.hid hs
  clear hr hs
  go_enter Try.func46, Try.ntmps46
  go_wp2_with fail
  go_loopw [9, 10, 11] (fun out dn ii wr => ∃ (k : Nat) (m : List Im) (A' : Option Addr) (c' : Nat) (b : Bool), k ≤ l.length ∧ ii = .int .i64 k ∧ m = RP l s size r k ∧ out = .slice A' m.length c' ∧ dn = .bool b ∧ b = decide (lowerI l s < k) ∧ Own wr w.heap.size 46 encI (.slice A' m.length c') m ∧ Below w.heap.size w wr) (fun _ _ ii _ => l.length - (intOf ii).toNat)
  case atStart => exact ⟨0, [], none, 0, false, by omega, rfl, by rw [RP_low (by omega)]; rfl, rfl, rfl, by simp, Own.nil_ _ _ _ _, Below.refl _ _⟩
  case round =>
    obtain ⟨k, m, A', c', b, hk, rfl, hm, rfl, rfl, hb, hO, hB⟩ := hrel
    have hml : m.length ≤ 100001 := by rw [hm]; have := RP_len l s size r k; omega
    have HM := Lib.hid hm
    have HP := Lib.hid (And.intro hO hB)
    clear hm hO hB
    by_cases hlt : k < l.length
    · obtain ⟨b0, off, rfl, hb0, c0, c1, c2⟩ := (HR.out.below HP.out.2).im hlt
      have dk : decide ((k : Int) < (l.length : Int)) = true := decide_eq_true (by omega)
      have dk2 : (k : Int) < (l.length : Int) := by omega
      have HLO := Lib.hid (fun h : k < lowerI l s => And.intro (RP_lo (size := size) (r := r) h hlt) (lower_lo HS.out s k hlt h))
      have HHI := Lib.hid (fun h : lowerI l s < k => RP_hi (size := size) (r := r) h hlt)
      have HGE := Lib.hid (fun h : lowerI l s ≤ k => lower_hi HS.out s k hlt h)
      have HEQ := Lib.hid (fun h : lowerI l s = k => show (isAt l s = true → (l[k].name.toList == s.toList) = true ∧ RP l s size r (k + 1) = RP l s size r k ++ [late l[k] r]) ∧ (isAt l s = false → (l[k].name.toList == s.toList) = false ∧ RP l s size r (k + 1) = (RP l s size r k ++ [⟨s, size, r⟩]) ++ [l[k]]) from by
        subst h
        refine ⟨fun hat => ⟨?_, RP_at hat hlt⟩, fun hat => ⟨?_, RP_new hat hlt⟩⟩
        · obtain ⟨_, hn⟩ := isAt_lt hat
          rw [hn]; simp
        · unfold isAt at hat
          rw [List.getElem?_eq_getElem hlt] at hat
          exact hat)
      generalize l[k] = x at *
      have hbl : blt x.name s = Op.bytesLess x.name.toList s.toList := rfl
      have HBX := Lib.hid (Blk.new wr 46 x.cells)
      have HNE := Lib.hid (show some wr.heap.size ≠ (Value.slice A' m.length c').ownBlock from fun e => by have := (HP.out.1.block_lt _ e.symm).2; omega)
      have HP1 := Lib.hid (And.intro (HP.out.1.alloc (.cells x.cells 46)) (HP.out.2.alloc HP.out.2.size (.cells x.cells 46)))
      rcases Nat.lt_trichotomy k (lowerI l s) with h3 | h3 | h3
      · have HN := Lib.hid (HLO.out h3).1
        have d1 := hbl.symm.trans (HLO.out h3).2
        have hbf : b = false := by rw [hb]; exact decide_eq_false (by omega)
        have hb2 : decide (lowerI l s < k + 1) = false := decide_eq_false (by omega)
        have HB2 := Lib.hid hb2
        subst hbf
        clear hb hb2 hbl h3 HLO HHI HGE HEQ
        go_wp2_with (at_builtin; refine wl_push elemI encI rfl (.tmp 44) (.tmp 46) rfl x x.cells rfl w.heap.size _ m rfl HP1.out.1 rfl (by simp) HP1.out.2 (by omega) (by omega) HP1.out.2.size ?_; intro A3 k3 w3 ho hb hg; have HX3 := Lib.hid (And.intro ho hb); clear ho hb hg)
        go_roundw
        case rel => exact ⟨k + 1, m ++ [x], A3, k3, false, by omega, by go_num, by rw [HN.out, HM.out], by simp, rfl, HB2.out.symm, own_len1 HX3.out.1, HX3.out.2⟩
        case measure => simp [intOf]; omega
      · have d1 := hbl.symm.trans (HGE.out (by omega))
        have hbf : b = false := by rw [hb]; exact decide_eq_false (by omega)
        have HB2 := Lib.hid (show decide (lowerI l s < k + 1) = true from decide_eq_true (by omega))
        have HE := Lib.hid (HEQ.out h3.symm)
        subst hbf
        clear hb hbl h3 HLO HHI HGE HEQ
        cases hat : isAt l s
        · have d2 := (HE.out.2 hat).1
          have HN := Lib.hid (HE.out.2 hat).2
          clear hat
          go_wp2_with (first
            | (at_builtin; refine wl_push elemI encI rfl (.tmp 37) (.tmp 42) rfl ⟨s, size, r⟩ #[.string s, .int .i64 size, .int .i64 r] rfl w.heap.size _ m rfl HP1.out.1 rfl (by simp) HP1.out.2 (by omega) (by omega) HP1.out.2.size ?_; intro A3 k3 w3 ho hb hg; have HX3 := Lib.hid (And.intro ho hb); have hbx3 := (HBX.out.alloc (.cells #[.string s, .int .i64 size, .int .i64 r] 46)).grown hg HNE.out; have cx3 := hbx3.cell; clear ho hb hg hbx3)
            | (at_builtin; refine wl_push elemI encI rfl (.tmp 44) (.tmp 46) rfl x x.cells rfl w.heap.size (.slice A3 (m.length + 1) k3) (m ++ [⟨s, size, r⟩]) rfl HX3.out.1 rfl rfl HX3.out.2 (by simp; omega) (by simp; omega) HX3.out.2.size ?_; intro A4 k4 w4 ho hb hg; have HX4 := Lib.hid (And.intro ho hb); clear ho hb hg))
          go_roundw
          case rel => exact ⟨k + 1, (m ++ [⟨s, size, r⟩]) ++ [x], A4, k4, true, by omega, by go_num, by rw [HN.out, HM.out], by simp, rfl, HB2.out.symm, own_len1 HX4.out.1, HX4.out.2⟩
          case measure => simp [intOf]; omega
        · have d2 := (HE.out.1 hat).1
          have HN := Lib.hid (HE.out.1 hat).2
          clear hat
          have HP2 := Lib.hid (And.intro (HP.out.1.alloc (.cells (late x r).cells 46)) (HP.out.2.alloc HP.out.2.size (.cells (late x r).cells 46)))
          go_wp2_with (at_builtin; refine wl_push elemI encI rfl (.tmp 44) (.tmp 46) rfl (late x r) (late x r).cells rfl w.heap.size _ m rfl HP2.out.1 rfl (by simp) HP2.out.2 (by omega) (by omega) HP2.out.2.size ?_; intro A3 k3 w3 ho hb hg; have HX3 := Lib.hid (And.intro ho hb); clear ho hb hg)
          go_roundw
          case rel => exact ⟨k + 1, m ++ [late x r], A3, k3, true, by omega, by go_num, by rw [HN.out, HM.out], by simp, rfl, HB2.out.symm, own_len1 HX3.out.1, HX3.out.2⟩
          case measure => simp [intOf]; omega
      · have HN := Lib.hid (HHI.out h3)
        have hbf : b = true := by rw [hb]; exact decide_eq_true (by omega)
        have HB2 := Lib.hid (show decide (lowerI l s < k + 1) = true from decide_eq_true (by omega))
        subst hbf
        clear hb hbl h3 HLO HHI HGE HEQ
        go_wp2_with (at_builtin; refine wl_push elemI encI rfl (.tmp 44) (.tmp 46) rfl x x.cells rfl w.heap.size _ m rfl HP1.out.1 rfl (by simp) HP1.out.2 (by omega) (by omega) HP1.out.2.size ?_; intro A3 k3 w3 ho hb hg; have HX3 := Lib.hid (And.intro ho hb); clear ho hb hg)
        go_roundw
        case rel => exact ⟨k + 1, m ++ [x], A3, k3, true, by omega, by go_num, by rw [HN.out, HM.out], by simp, rfl, HB2.out.symm, own_len1 HX3.out.1, HX3.out.2⟩
        case measure => simp [intOf]; omega
    · obtain rfl : k = l.length := by omega
      have dk : decide ((l.length : Int) < (l.length : Int)) = false := by simp
      have hle := lowerI_le l s
      rcases Nat.lt_or_ge (lowerI l s) l.length with h3 | h3
      · have hbf : b = true := by rw [hb]; exact decide_eq_true (by omega)
        subst hbf
        have HE : Hid (m = putOf l s size r) := HM.out.trans (RP_done h3)
        clear hb h3 hle
        go_wp2_with fail
        go_ret
        exact ⟨A', c', by rw [← HE.out] <;> rfl, by rw [← HE.out]; exact HP.out.1, HP.out.2⟩
      · have hbf : b = false := by rw [hb]; exact decide_eq_false (by omega)
        subst hbf
        have HE : Hid (m ++ [⟨s, size, r⟩] = putOf l s size r) := by rw [show m = _ from HM.out]; exact RP_end (by omega)
        clear hb h3 hle
        go_wp2_with (at_builtin; refine wl_push elemI encI rfl (.tmp 50) (.tmp 55) rfl ⟨s, size, r⟩ #[.string s, .int .i64 size, .int .i64 r] rfl w.heap.size _ m rfl HP.out.1 rfl rfl HP.out.2 (by omega) (by omega) HP.out.2.size ?_; intro A3 k3 w3 ho hb hg; have HX3 := Lib.hid (And.intro ho hb); clear ho hb hg)
        go_ret
        exact ⟨A3, k3, by rw [← HE.out, List.length_append] <;> rfl, by rw [← HE.out]; exact own_len1 HX3.out.1, HX3.out.2⟩

set_option maxHeartbeats 4000000 in
theorem refTouch_any (l : List Im) (us : List ByteArray) (r : Int) (A B : Option Addr) (c d : Nat) (w : World) (hr : Rds w encI A l) (hu : Rds w encS B us) (hl : l.length ≤ 100000) (hm : us.length ≤ 9223372036854775807) :
    Calls Try.prog 47 #[.slice A l.length c, .slice B us.length d, .int .i64 r] w (GivesIms (touchM l us r) w) := by
  have HR := Lib.hid hr
  have HU := Lib.hid hu
  clear hr hu
  go_enter Try.func47, Try.ntmps47
  go_wp2_with fail
  go_loopw [7, 8] (fun out ii wr => ∃ (k : Nat) (m : List Im) (A' : Option Addr) (c' : Nat), k ≤ l.length ∧ ii = .int .i64 k ∧ m = touchM (l.take k) us r ∧ out = .slice A' m.length c' ∧ Own wr w.heap.size 46 encI (.slice A' m.length c') m ∧ Below w.heap.size w wr) (fun _ ii _ => l.length - (intOf ii).toNat)
  case atStart => exact ⟨0, [], none, 0, by omega, rfl, rfl, rfl, Own.nil_ _ _ _ _, Below.refl _ _⟩
  case round =>
    obtain ⟨k, m, A', c', hk, rfl, hm', rfl, hO, hB⟩ := hrel
    have hml : m.length ≤ 100001 := by rw [hm', touchM_len, List.length_take]; omega
    have HM := Lib.hid hm'
    have HP := Lib.hid (And.intro hO hB)
    clear hm' hO hB
    by_cases hlt : k < l.length
    · obtain ⟨b0, off, rfl, hb0, c0, c1, c2⟩ := (HR.out.below HP.out.2).im hlt
      have dk : decide ((k : Int) < (l.length : Int)) = true := decide_eq_true (by omega)
      have dk2 : (k : Int) < (l.length : Int) := by omega
      have HT := Lib.hid (show touchM (l.take (k + 1)) us r = touchM (l.take k) us r ++ [if hasB us l[k].name then late l[k] r else l[k]] by
        unfold touchM; rw [List.take_succ_eq_append_getElem hlt, List.map_append]; rfl)
      generalize l[k] = x at *
      have HBX := Lib.hid (Blk.new wr 46 x.cells)
      have HNE := Lib.hid (show some wr.heap.size ≠ (Value.slice A' m.length c').ownBlock from fun e => by have := (HP.out.1.block_lt _ e.symm).2; omega)
      have HP1 := Lib.hid (And.intro (HP.out.1.alloc (.cells x.cells 46)) (HP.out.2.alloc HP.out.2.size (.cells x.cells 46)))
      have HU1 := Lib.hid (HU.out.below HP1.out.2)
      have HHAS := Lib.hid (has_any us x.name B d (wr.alloc (.cells x.cells 46)) HU1.out hm)
      cases hh : hasB us x.name
      · have HN : Hid (touchM (l.take (k + 1)) us r = touchM (l.take k) us r ++ [x]) := by show _ = _; rw [HT.out, hh]; rfl
        have hhas := HHAS.out
        rw [hh] at hhas
        clear hh
        go_wp2_with fail
        refine hhas.mono ?_; rintro e wa ⟨rfl, rfl⟩
        clear hhas
        go_wp2_with (at_builtin; refine wl_push elemI encI rfl (.tmp 26) (.tmp 28) rfl x x.cells rfl w.heap.size _ m rfl HP1.out.1 rfl (by simp) HP1.out.2 (by omega) (by omega) HP1.out.2.size ?_; intro A3 k3 w3 ho hb hg; have HX3 := Lib.hid (And.intro ho hb); clear ho hb hg)
        go_roundw
        case rel => exact ⟨k + 1, m ++ [x], A3, k3, by omega, by go_num, by rw [HN.out, HM.out], by simp, own_len1 HX3.out.1, HX3.out.2⟩
        case measure => simp [intOf]; omega
      · have HN : Hid (touchM (l.take (k + 1)) us r = touchM (l.take k) us r ++ [late x r]) := by show _ = _; rw [HT.out, hh]; rfl
        have hhas := HHAS.out
        rw [hh] at hhas
        clear hh
        have HP2 := Lib.hid (And.intro (HP.out.1.alloc (.cells (late x r).cells 46)) (HP.out.2.alloc HP.out.2.size (.cells (late x r).cells 46)))
        go_wp2_with fail
        refine hhas.mono ?_; rintro e wa ⟨rfl, rfl⟩
        clear hhas
        go_wp2_with (at_builtin; refine wl_push elemI encI rfl (.tmp 26) (.tmp 28) rfl (late x r) (late x r).cells rfl w.heap.size _ m rfl HP2.out.1 rfl (by simp) HP2.out.2 (by omega) (by omega) HP2.out.2.size ?_; intro A3 k3 w3 ho hb hg; have HX3 := Lib.hid (And.intro ho hb); clear ho hb hg)
        go_roundw
        case rel => exact ⟨k + 1, m ++ [late x r], A3, k3, by omega, by go_num, by rw [HN.out, HM.out], by simp, own_len1 HX3.out.1, HX3.out.2⟩
        case measure => simp [intOf]; omega
    · obtain rfl : k = l.length := by omega
      have dk : decide ((l.length : Int) < (l.length : Int)) = false := by simp
      rw [List.take_length] at HM
      go_wp2_with fail
      go_ret
      exact ⟨A', c', by rw [← HM.out] <;> rfl, by rw [← HM.out]; exact HP.out.1, HP.out.2⟩
end Go.Proofs.Ytfaklhdafpbkmaa
