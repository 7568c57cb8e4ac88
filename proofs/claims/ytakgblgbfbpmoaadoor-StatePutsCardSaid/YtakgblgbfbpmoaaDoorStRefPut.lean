/- bilgeref24.Put of a right state: putS. -/
import Derived.Test.YtakgblgbfbpmoaaDoorMT
import Derived.Test.YtakgblgbfbpmoaaDoorMU
import Derived.Deep.DeepCutAuto
namespace Go.Proofs.YtakgblgbfbpmoaaDoor
open Go.RowKit

def upB (rd : Int) (a b c : Bool) (l : List En) (i : Nat) : List UInt8 := headB rd a b c l.length ++ flatB (l.take i)
theorem upB_zero (rd : Int) (a b c : Bool) (l : List En) : upB rd a b c l 0 = headB rd a b c l.length := by unfold upB; simp [flatB]
theorem upB_all (rd : Int) (a b c : Bool) (l : List En) : upB rd a b c l l.length = putS rd a b c l := by unfold upB putS; rw [List.take_length]
theorem upB_snoc (rd : Int) (a b c : Bool) (l : List En) (i : Nat) (hi : i < l.length) : upB rd a b c l (i + 1) = upB rd a b c l i ++ entB l[i] := by unfold upB; rw [flatB_snoc l i hi, List.append_assoc]
theorem upB_len {rd : Int} {a b c : Bool} {l : List En} (h : ∀ x ∈ l, x.pod.right = true) (i : Nat) (hi : i ≤ 64) : (upB rd a b c l i).length ≤ 8000 := by
  unfold upB
  have := flatB_len (l := l.take i) fun x hx => h x (List.mem_of_mem_take hx)
  rw [List.length_append, headB_len]
  have h2 : (l.take i).length ≤ 64 := by rw [List.length_take]; omega
  omega
theorem onTo_le (a b c : Bool) (k : Nat) : onTo a b c k ≤ 7 := by
  have h1 : (if (a && decide (0 < k)) = true then (1 : Int) else 0) ≤ 1 := by split <;> omega
  have h2 : (if (b && decide (1 < k)) = true then (2 : Int) else 0) ≤ 2 := by split <;> omega
  have h3 : (if (c && decide (2 < k)) = true then (4 : Int) else 0) ≤ 4 := by split <;> omega
  unfold onTo; omega
theorem onTo_ge (a b c : Bool) (k : Nat) : 0 ≤ onTo a b c k := by
  have h1 : 0 ≤ (if (a && decide (0 < k)) = true then (1 : Int) else 0) := by split <;> omega
  have h2 : 0 ≤ (if (b && decide (1 < k)) = true then (2 : Int) else 0) := by split <;> omega
  have h3 : 0 ≤ (if (c && decide (2 < k)) = true then (4 : Int) else 0) := by split <;> omega
  unfold onTo; omega
theorem left64_small {n : Int} (k : Nat) (h : 0 ≤ n ∧ n ≤ 1099511627776) : left64 n k ≤ 1099511627776 := by
  unfold left64
  have e : n % 18446744073709551616 = n := by omega
  rw [e]
  have := Int.ediv_le_self (256 ^ k) h.1
  omega
set_option maxRecDepth 100000 in
set_option maxHeartbeats 16000000 in
theorem ref24Put_any (rd : Int) (l : List En) (h : RightS rd l) (A : Option Addr) (c : Nat) (o0 o1 o2 : Bool) (w : World) (hr : Rds w encN A l) (hw : ∀ x ∈ l, x.pod.Wf) :
    Calls Tryd.prog 17 #[.agg #[.int .i64 rd, .slice A l.length c, .bool o0, .bool o1, .bool o2]] w fun e w' => ∃ (A : Option Addr) (c : Nat), e = .returned (.slice A (putS rd o0 o1 o2 l).length c) ∧ Own w' w.heap.size 5 encB (.slice A (putS rd o0 o1 o2 l).length c) (putS rd o0 o1 o2 l) ∧ Below w.heap.size w w' := by
  have mixed : Tryd.prog.follows Departure.mixedOrders = true := by kernel_rfl
  have HQ := Lib.hid (SQ.new rd A l c o0 o1 o2 w)
  have HR := Lib.hid hr
  have HW := Lib.hid hw
  have HRG := Lib.hid h.each
  have hlen := h.len
  have HRD := Lib.hid (And.intro h.lo h.hi)
  have HLZ := Lib.hid (left64_zero rd)
  have HL0 := Lib.hid (show left64 rd 0 = rd by rw [left64_zero]; have := h.lo; have := h.hi; omega)
  clear hr hw h
  go_enter Tryd.func17, Tryd.ntmps17
  have cs := HQ.out.sb.cell
  go_wp2_with fail
  clear cs
  obtain ⟨W0, hW0⟩ : ∃ W0, (w.alloc (.cells #[.int .i64 rd, .slice A l.length c, .bool o0, .bool o1, .bool o2] 25)) = W0 := ⟨_, rfl⟩
  rw [hW0] at HQ ⊢
  clear hW0
  have HQ0 := HQ
  have HR0 := Lib.hid (HR.out.below HQ.out.bel)
  clear HQ HR
  go_loopw [3, 4, 5] (fun b n i wr => ∃ (k : Nat) (A1 : Option Addr) (c1 : Nat), k ≤ 8 ∧ i = .int .i64 k ∧ n = .int .i64 (left64 rd k) ∧ b = .slice A1 (wordTo rd k).length c1 ∧ Own wr W0.heap.size 5 encB (.slice A1 (wordTo rd k).length c1) (wordTo rd k) ∧ Below W0.heap.size W0 wr) (fun _ _ i _ => 8 - (intOf i).toNat)
  case atStart => exact ⟨0, none, 0, by omega, rfl, by rw [HL0.out], rfl, Own.nil_ _ _ _ _, Below.refl _ _⟩
  case round =>
    obtain ⟨k, A1, c1, hk, rfl, rfl, rfl, ho, hbl⟩ := hrel
    have HO := Lib.hid ho
    have HB := Lib.hid hbl
    clear ho hbl
    by_cases hlt : k < 8
    · have hx1 := (left64_bd rd k).1
      have hx2 : left64 rd k ≤ 1099511627776 := left64_small k HRD.out
      have ht : (left64 rd k).tmod 256 = left64 rd k % 256 := Int.tmod_eq_emod_of_nonneg hx1
      have hq : (left64 rd k).tdiv 256 = left64 rd k / 256 := Int.tdiv_eq_ediv_of_nonneg hx1
      have hb := Lib.hid (left64_byte rd k hlt)
      have hs := Lib.hid (left64_succ rd k)
      have hmade := Own.made wr W0.heap.size 5 encB [byteAt rd k] #[.int .u8 (left64 rd k % 256)] (by rw [hb.out, encB_all]; rfl) HB.out.size (by simp)
      have hrd := (HO.out.toRds).alloc (.cells #[.int .u8 (left64 rd k % 256)] 5)
      have HL := Lib.hid (wordTo_len rd k)
      have H := Lib.hid (And.intro hmade hrd)
      have hsz := HB.out.size
      clear hmade hrd
      have iw : IntKind.u8.wrap (left64 rd k % 256) = left64 rd k % 256 := by simp [IntKind.wrap, IntKind.bits, IntKind.signed]
      go_wp2_with (at_builtin; refine wl_app elemB encB rfl (.tmp 17) (.tmp 18) rfl W0.heap.size _ [byteAt rd k] rfl H.out.1 A1 (wordTo rd k) c1 rfl H.out.2 (by rw [HL.out]; simp; omega) (by rw [HL.out]; simp; omega) (by simp; omega) ?_; intro A' c' w1 hown1 hgrow1 _)
      have el : [byteAt rd k].length + (wordTo rd k).length = (wordTo rd (k + 1)).length := by simp [wordTo, Nat.add_comm]
      rw [el] at hown1
      have EL := Lib.hid el
      clear el
      go_roundw
      case rel => exact ⟨k + 1, A', c', by omega, by go_num, by rw [← hs.out], by rw [← EL.out]; rfl, hown1, H.out.1.belowGrown (HB.out.alloc hsz _) hgrow1 (Nat.le_refl _) (by simp; omega)⟩
      case measure => simp [intOf]; omega
    · obtain rfl : k = 8 := by omega
      have HQ := Lib.hid (HQ0.out.below HB.out)
      clear hlt
      have cs := HQ.out.sb.cell
      go_upto_if 24 with (fail)
      go_cut [6] (fun v W => v = .int .i64 (onTo o0 o1 o2 1) ∧ wr = W)
      case first =>
        cases o0
        all_goals
          go_wp2_with fail
          go_meet
          exact ⟨by first | rfl | (simp [onTo]; done), rfl⟩
      case rest =>
        clear cs
        obtain ⟨rfl, hwc⟩ := hcut
        subst hwc
        have hbd0 := onTo_le o0 o1 o2 1
        have hbe0 := onTo_ge o0 o1 o2 1
        have cs := HQ.out.sb.cell
        go_upto_if 29 with (fail)
        go_cut [6] (fun v W => v = .int .i64 (onTo o0 o1 o2 2) ∧ wr = W)
        case first =>
          cases o1
          all_goals
            go_wp2_with fail
            go_meet
            exact ⟨by first | rfl | (simp [onTo]; done), rfl⟩
        case rest =>
          clear cs
          obtain ⟨rfl, hwc⟩ := hcut
          subst hwc
          have hbd1 := onTo_le o0 o1 o2 2
          have hbe1 := onTo_ge o0 o1 o2 2
          have cs := HQ.out.sb.cell
          go_upto_if 34 with (fail)
          go_cut [6] (fun v W => v = .int .i64 (onTo o0 o1 o2 3) ∧ wr = W)
          case first =>
            cases o2
            all_goals
              go_wp2_with fail
              go_meet
              exact ⟨by first | rfl | (simp [onTo]; done), rfl⟩
          case rest =>
            clear cs
            obtain ⟨rfl, hwc⟩ := hcut
            subst hwc
            have hbd2 := onTo_le o0 o1 o2 3
            have hbe2 := onTo_ge o0 o1 o2 3
            have cs := HQ.out.sb.cell
            go_wp2_with fail
            clear cs
            have iw : IntKind.u8.wrap (onTo o0 o1 o2 3) = onTo o0 o1 o2 3 := by simp [IntKind.wrap, IntKind.bits, IntKind.signed]; omega
            have iw2 : IntKind.u8.wrap (l.length : Int) = l.length := by simp [IntKind.wrap, IntKind.bits, IntKind.signed]; omega
            have HLB := Lib.hid (show ((UInt8.ofNat l.length).toNat : Int) = (l.length : Int) by rw [UInt8.toNat_ofNat']; omega)
            have HWL := Lib.hid (wordTo_len rd 8)
            have HHL := Lib.hid (show (headB rd o0 o1 o2 l.length).length = (wordTo rd 8).length + 1 + 1 by rw [headB_len, wordTo_len])
            have HHD := Lib.hid (show headB rd o0 o1 o2 l.length = wordTo rd 8 ++ [onB o0 o1 o2] ++ [UInt8.ofNat l.length] by unfold headB word; simp)
            go_cut [3] (fun b W => ∃ A5 c5, b = .slice A5 (headB rd o0 o1 o2 l.length).length c5 ∧ Own W W0.heap.size 5 encB (.slice A5 (headB rd o0 o1 o2 l.length).length c5) (headB rd o0 o1 o2 l.length) ∧ Below W0.heap.size W0 W)
            case first =>
              have HQd := Lib.hid (HQ0.out.below HB.out).drew
              refine wp_region_held_drew (S := (fun w' => w'.cell? ⟨w.heap.size, 1, none⟩ = some (.slice A l.length c))) (by kernel_rfl) (HQd.out.sb.cell 1) (fun hHeld => ?_)
              clear HQd
              have HB := Lib.hid HB.out.drew
              have HO := Lib.hid HO.out.drew
              generalize wr.drew = wd at *
              have HSZ := Lib.hid (Nat.le_refl wd.heap.size)
              have HLT := Lib.hid (fun k hk => (HO.out.block_lt k hk).2)
              refine held_take 0 37 (.slice A1 (wordTo rd 8).length c1) rfl rfl (by kernel_rfl) (by kernel_rfl) (by kernel_rfl) (fun _ _ _ h => h) (by rfl) (by intro w' hSw; (try dsimp only at hSw); go_simp; (try (with_reducible rfl))) (by assumption) ?_
              simp only [Act.put, List.setIfInBounds_toArray, List.set_cons_zero, List.set_cons_succ]
              refine held_take 1 38 (.int .i64 (onTo o0 o1 o2 3)) rfl rfl (by kernel_rfl) (by kernel_rfl) (by kernel_rfl) (fun _ _ _ h => h) (by rfl) (by intro w' hSw; (try dsimp only at hSw); go_simp; (try (with_reducible rfl))) (by assumption) ?_
              simp only [Act.put, List.setIfInBounds_toArray, List.set_cons_zero, List.set_cons_succ]
              refine held_take 2 39 (.int .u8 (onTo o0 o1 o2 3)) rfl rfl (by kernel_rfl) (by kernel_rfl) (by kernel_rfl) (fun _ _ _ h => h) (by rfl) (by intro w' hSw; (try dsimp only at hSw); go_simp; (try (with_reducible rfl))) (by assumption) ?_
              simp only [Act.put, List.setIfInBounds_toArray, List.set_cons_zero, List.set_cons_succ]
              refine held_take 5 42 (.pointer (some ⟨w.heap.size, 1, none⟩)) rfl rfl (by kernel_rfl) (by kernel_rfl) (by kernel_rfl) (fun _ _ _ h => h) (by rfl) (by intro w' hSw; (try dsimp only at hSw); go_simp; (try (with_reducible rfl))) (by assumption) ?_
              simp only [Act.put, List.setIfInBounds_toArray, List.set_cons_zero, List.set_cons_succ]
              refine held_take 6 43 (.slice A l.length c) rfl rfl (by kernel_rfl) (by kernel_rfl) (by kernel_rfl) (fun _ _ _ h => h) (by rfl) (by intro w' hSw; (try dsimp only at hSw); go_simp; (try (with_reducible rfl))) (by assumption) ?_
              simp only [Act.put, List.setIfInBounds_toArray, List.set_cons_zero, List.set_cons_succ]
              refine held_take 7 44 (.int .i64 l.length) rfl rfl (by kernel_rfl) (by kernel_rfl) (by kernel_rfl) (fun _ _ _ h => h) (by rfl) (by intro w' hSw; (try dsimp only at hSw); go_simp; (try (with_reducible rfl))) (by assumption) ?_
              simp only [Act.put, List.setIfInBounds_toArray, List.set_cons_zero, List.set_cons_succ]
              refine held_take 8 45 (.int .u8 l.length) rfl rfl (by kernel_rfl) (by kernel_rfl) (by kernel_rfl) (fun _ _ _ h => h) (by rfl) (by intro w' hSw; (try dsimp only at hSw); go_simp; (try (with_reducible rfl))) (by assumption) ?_
              simp only [Act.put, List.setIfInBounds_toArray, List.set_cons_zero, List.set_cons_succ]
              refine held_twoD 3 9 40 46 rfl rfl rfl rfl (by kernel_rfl) (by rfl) (by rfl) (fun K hK => ?_) (fun K hK => ?_)
              · go_simp
                have HXa := Lib.hid (Rdf.made (wd) encB [onB o0 o1 o2] 5 #[.int .u8 (onTo o0 o1 o2 3)] (0, 0) (by rw [encB_all, List.map_cons]; exact congrArg (fun z => [Value.int .u8 z]) (onB_nat o0 o1 o2).symm))
                have HXba := Lib.hid HSZ.out
                have HO := Lib.hid (HO.out.alloc (.cells #[.int .u8 (onTo o0 o1 o2 3)] 5))
                have HB := Lib.hid (HB.out.alloc HB.out.size (.cells #[.int .u8 (onTo o0 o1 o2 3)] 5))
                have HSZ := Lib.hid (show wd.heap.size ≤ ((wd).alloc (.cells #[.int .u8 (onTo o0 o1 o2 3)] 5)).heap.size by have := HSZ.out; simp <;> omega)
                have HQ := Lib.hid (HQ0.out.below HB.out)
                refine hK _ _ (HQ.out.sb.cell 1) ?_
                have hHeld := (show ((wd).alloc (.cells #[.int .u8 (onTo o0 o1 o2 3)] 5)).cell? ⟨w.heap.size, 1, none⟩ = some (.slice A l.length c) from HQ.out.sb.cell 1)
                clear hK K
                simp only [Act.put, List.setIfInBounds_toArray, List.set_cons_zero, List.set_cons_succ]
                refine held_twoD 4 9 41 46 rfl rfl rfl rfl (by kernel_rfl) (by rfl) (by rfl) (fun K hK => ?_) (fun K hK => ?_)
                · refine wp_app ((wd).alloc (.cells #[.int .u8 (onTo o0 o1 o2 3)] 5)) elemB encB (.tmp 37) (.tmp 40) rfl W0.heap.size _ (wordTo rd 8) (by simp [Act.eval]) HO.out _ [onB o0 o1 o2] 1 (by simp [Act.eval]) HXa.out.rds (by have := HWL.out; simp; omega) (by have := HWL.out; simp; omega) HB.out.size ?_
                  intro A21 c21 w21 ho hg _
                  have hb7 := HO.out.belowGrown HB.out hg (Nat.le_refl _) HB.out.size
                  have hlz := HO.out.block_lt
                  have HSZ := Lib.hid (Nat.le_trans HSZ.out hg.size)
                  have HO := Lib.hid ho
                  have HB := Lib.hid hb7
                  clear ho hg hb7 hlz
                  have HQ := Lib.hid (HQ0.out.below HB.out)
                  refine hK _ _ (HQ.out.sb.cell 1) ?_
                  have hHeld := (show (w21).cell? ⟨w.heap.size, 1, none⟩ = some (.slice A l.length c) from HQ.out.sb.cell 1)
                  clear hK K
                  simp only [Act.put, List.setIfInBounds_toArray, List.set_cons_zero, List.set_cons_succ]
                  refine held_call 9 46 rfl rfl (by kernel_rfl) (by rfl) (fun K hK => ?_)
                  go_simp
                  have HXe := Lib.hid (Rdf.made (w21) encB [UInt8.ofNat l.length] 5 #[.int .u8 l.length] (0, 0) (by rw [encB_all, List.map_cons]; exact congrArg (fun z => [Value.int .u8 z]) HLB.out.symm))
                  have HXbe := Lib.hid HSZ.out
                  have HO := Lib.hid (HO.out.alloc (.cells #[.int .u8 l.length] 5))
                  have HB := Lib.hid (HB.out.alloc HB.out.size (.cells #[.int .u8 l.length] 5))
                  have HSZ := Lib.hid (show wd.heap.size ≤ ((w21).alloc (.cells #[.int .u8 l.length] 5)).heap.size by have := HSZ.out; simp <;> omega)
                  have HQ := Lib.hid (HQ0.out.below HB.out)
                  refine hK _ _ (HQ.out.sb.cell 1) ?_
                  have hHeld := (show ((w21).alloc (.cells #[.int .u8 l.length] 5)).cell? ⟨w.heap.size, 1, none⟩ = some (.slice A l.length c) from HQ.out.sb.cell 1)
                  clear hK K
                  simp only [Act.put, List.setIfInBounds_toArray, List.set_cons_zero, List.set_cons_succ]
                  refine held_call 10 47 rfl rfl (by kernel_rfl) (by rfl) (fun K hK => ?_)
                  refine wp_app ((w21).alloc (.cells #[.int .u8 l.length] 5)) elemB encB (.tmp 41) (.tmp 46) rfl W0.heap.size _ (wordTo rd 8 ++ [onB o0 o1 o2]) (by simp [Act.eval]) HO.out _ [UInt8.ofNat l.length] 1 (by simp [Act.eval]) HXe.out.rds (by have := HWL.out; simp; omega) (by have := HWL.out; simp; omega) HB.out.size ?_
                  intro A22 c22 w22 ho hg _
                  have hb7 := HO.out.belowGrown HB.out hg (Nat.le_refl _) HB.out.size
                  have hlz := HO.out.block_lt
                  have HSZ := Lib.hid (Nat.le_trans HSZ.out hg.size)
                  have HO := Lib.hid ho
                  have HB := Lib.hid hb7
                  clear ho hg hb7 hlz
                  have HQ := Lib.hid (HQ0.out.below HB.out)
                  refine hK _ _ (HQ.out.sb.cell 1) ?_
                  have hHeld := (show (w22).cell? ⟨w.heap.size, 1, none⟩ = some (.slice A l.length c) from HQ.out.sb.cell 1)
                  clear hK K
                  simp only [Act.put, List.setIfInBounds_toArray, List.set_cons_zero, List.set_cons_succ]
                  refine held_take 11 3 (.slice A22 ((wordTo rd 8 ++ [onB o0 o1 o2]).length + [UInt8.ofNat l.length].length) c22) rfl rfl (by kernel_rfl) (by kernel_rfl) (by kernel_rfl) (fun _ _ _ h => h) (by rfl) (by intro w' hSw; (try dsimp only at hSw); go_simp; (try (with_reducible rfl))) (by assumption) ?_
                  simp only [Act.put, List.setIfInBounds_toArray, List.set_cons_zero, List.set_cons_succ]
                  refine wpAnyH_done (by kernel_rfl) ?_ _
                  clear hHeld
                  go_wp2_with fail
                  go_meet
                  exact ⟨A22, c22, by rw [HHL.out]; simp, by have h := HO.out; rw [HHD.out]; simpa [List.append_assoc] using h, HB.out⟩
                · go_simp
                  have HXe := Lib.hid (Rdf.made ((wd).alloc (.cells #[.int .u8 (onTo o0 o1 o2 3)] 5)) encB [UInt8.ofNat l.length] 5 #[.int .u8 l.length] (0, 0) (by rw [encB_all, List.map_cons]; exact congrArg (fun z => [Value.int .u8 z]) HLB.out.symm))
                  have HXbe := Lib.hid HSZ.out
                  have HO := Lib.hid (HO.out.alloc (.cells #[.int .u8 l.length] 5))
                  have HXa := Lib.hid (HXa.out.alloc (.cells #[.int .u8 l.length] 5))
                  have HB := Lib.hid (HB.out.alloc HB.out.size (.cells #[.int .u8 l.length] 5))
                  have HSZ := Lib.hid (show wd.heap.size ≤ (((wd).alloc (.cells #[.int .u8 (onTo o0 o1 o2 3)] 5)).alloc (.cells #[.int .u8 l.length] 5)).heap.size by have := HSZ.out; simp <;> omega)
                  have HQ := Lib.hid (HQ0.out.below HB.out)
                  refine hK _ _ (HQ.out.sb.cell 1) ?_
                  have hHeld := (show (((wd).alloc (.cells #[.int .u8 (onTo o0 o1 o2 3)] 5)).alloc (.cells #[.int .u8 l.length] 5)).cell? ⟨w.heap.size, 1, none⟩ = some (.slice A l.length c) from HQ.out.sb.cell 1)
                  clear hK K
                  simp only [Act.put, List.setIfInBounds_toArray, List.set_cons_zero, List.set_cons_succ]
                  refine held_call 4 41 rfl rfl (by kernel_rfl) (by rfl) (fun K hK => ?_)
                  refine wp_app (((wd).alloc (.cells #[.int .u8 (onTo o0 o1 o2 3)] 5)).alloc (.cells #[.int .u8 l.length] 5)) elemB encB (.tmp 37) (.tmp 40) rfl W0.heap.size _ (wordTo rd 8) (by simp [Act.eval]) HO.out _ [onB o0 o1 o2] 1 (by simp [Act.eval]) HXa.out.rds (by have := HWL.out; simp; omega) (by have := HWL.out; simp; omega) HB.out.size ?_
                  intro A23 c23 w23 ho hg _
                  have hb7 := HO.out.belowGrown HB.out hg (Nat.le_refl _) HB.out.size
                  have hlz := HO.out.block_lt
                  have HXe := Lib.hid (HXe.out.grown hg (fun k hk => Nat.lt_of_lt_of_le (HLT.out k hk) HXbe.out))
                  have HSZ := Lib.hid (Nat.le_trans HSZ.out hg.size)
                  have HO := Lib.hid ho
                  have HB := Lib.hid hb7
                  clear ho hg hb7 hlz
                  have HQ := Lib.hid (HQ0.out.below HB.out)
                  refine hK _ _ (HQ.out.sb.cell 1) ?_
                  have hHeld := (show (w23).cell? ⟨w.heap.size, 1, none⟩ = some (.slice A l.length c) from HQ.out.sb.cell 1)
                  clear hK K
                  simp only [Act.put, List.setIfInBounds_toArray, List.set_cons_zero, List.set_cons_succ]
                  refine held_call 10 47 rfl rfl (by kernel_rfl) (by rfl) (fun K hK => ?_)
                  refine wp_app (w23) elemB encB (.tmp 41) (.tmp 46) rfl W0.heap.size _ (wordTo rd 8 ++ [onB o0 o1 o2]) (by simp [Act.eval]) HO.out _ [UInt8.ofNat l.length] 1 (by simp [Act.eval]) HXe.out.rds (by have := HWL.out; simp; omega) (by have := HWL.out; simp; omega) HB.out.size ?_
                  intro A24 c24 w24 ho hg _
                  have hb7 := HO.out.belowGrown HB.out hg (Nat.le_refl _) HB.out.size
                  have hlz := HO.out.block_lt
                  have HSZ := Lib.hid (Nat.le_trans HSZ.out hg.size)
                  have HO := Lib.hid ho
                  have HB := Lib.hid hb7
                  clear ho hg hb7 hlz
                  have HQ := Lib.hid (HQ0.out.below HB.out)
                  refine hK _ _ (HQ.out.sb.cell 1) ?_
                  have hHeld := (show (w24).cell? ⟨w.heap.size, 1, none⟩ = some (.slice A l.length c) from HQ.out.sb.cell 1)
                  clear hK K
                  simp only [Act.put, List.setIfInBounds_toArray, List.set_cons_zero, List.set_cons_succ]
                  refine held_take 11 3 (.slice A24 ((wordTo rd 8 ++ [onB o0 o1 o2]).length + [UInt8.ofNat l.length].length) c24) rfl rfl (by kernel_rfl) (by kernel_rfl) (by kernel_rfl) (fun _ _ _ h => h) (by rfl) (by intro w' hSw; (try dsimp only at hSw); go_simp; (try (with_reducible rfl))) (by assumption) ?_
                  simp only [Act.put, List.setIfInBounds_toArray, List.set_cons_zero, List.set_cons_succ]
                  refine wpAnyH_done (by kernel_rfl) ?_ _
                  clear hHeld
                  go_wp2_with fail
                  go_meet
                  exact ⟨A24, c24, by rw [HHL.out]; simp, by have h := HO.out; rw [HHD.out]; simpa [List.append_assoc] using h, HB.out⟩
              · go_simp
                have HXe := Lib.hid (Rdf.made (wd) encB [UInt8.ofNat l.length] 5 #[.int .u8 l.length] (0, 0) (by rw [encB_all, List.map_cons]; exact congrArg (fun z => [Value.int .u8 z]) HLB.out.symm))
                have HXbe := Lib.hid HSZ.out
                have HO := Lib.hid (HO.out.alloc (.cells #[.int .u8 l.length] 5))
                have HB := Lib.hid (HB.out.alloc HB.out.size (.cells #[.int .u8 l.length] 5))
                have HSZ := Lib.hid (show wd.heap.size ≤ ((wd).alloc (.cells #[.int .u8 l.length] 5)).heap.size by have := HSZ.out; simp <;> omega)
                have HQ := Lib.hid (HQ0.out.below HB.out)
                refine hK _ _ (HQ.out.sb.cell 1) ?_
                have hHeld := (show ((wd).alloc (.cells #[.int .u8 l.length] 5)).cell? ⟨w.heap.size, 1, none⟩ = some (.slice A l.length c) from HQ.out.sb.cell 1)
                clear hK K
                simp only [Act.put, List.setIfInBounds_toArray, List.set_cons_zero, List.set_cons_succ]
                refine held_call 3 40 rfl rfl (by kernel_rfl) (by rfl) (fun K hK => ?_)
                go_simp
                have HXa := Lib.hid (Rdf.made ((wd).alloc (.cells #[.int .u8 l.length] 5)) encB [onB o0 o1 o2] 5 #[.int .u8 (onTo o0 o1 o2 3)] (0, 0) (by rw [encB_all, List.map_cons]; exact congrArg (fun z => [Value.int .u8 z]) (onB_nat o0 o1 o2).symm))
                have HXba := Lib.hid HSZ.out
                have HO := Lib.hid (HO.out.alloc (.cells #[.int .u8 (onTo o0 o1 o2 3)] 5))
                have HXe := Lib.hid (HXe.out.alloc (.cells #[.int .u8 (onTo o0 o1 o2 3)] 5))
                have HB := Lib.hid (HB.out.alloc HB.out.size (.cells #[.int .u8 (onTo o0 o1 o2 3)] 5))
                have HSZ := Lib.hid (show wd.heap.size ≤ (((wd).alloc (.cells #[.int .u8 l.length] 5)).alloc (.cells #[.int .u8 (onTo o0 o1 o2 3)] 5)).heap.size by have := HSZ.out; simp <;> omega)
                have HQ := Lib.hid (HQ0.out.below HB.out)
                refine hK _ _ (HQ.out.sb.cell 1) ?_
                have hHeld := (show (((wd).alloc (.cells #[.int .u8 l.length] 5)).alloc (.cells #[.int .u8 (onTo o0 o1 o2 3)] 5)).cell? ⟨w.heap.size, 1, none⟩ = some (.slice A l.length c) from HQ.out.sb.cell 1)
                clear hK K
                simp only [Act.put, List.setIfInBounds_toArray, List.set_cons_zero, List.set_cons_succ]
                refine held_call 4 41 rfl rfl (by kernel_rfl) (by rfl) (fun K hK => ?_)
                refine wp_app (((wd).alloc (.cells #[.int .u8 l.length] 5)).alloc (.cells #[.int .u8 (onTo o0 o1 o2 3)] 5)) elemB encB (.tmp 37) (.tmp 40) rfl W0.heap.size _ (wordTo rd 8) (by simp [Act.eval]) HO.out _ [onB o0 o1 o2] 1 (by simp [Act.eval]) HXa.out.rds (by have := HWL.out; simp; omega) (by have := HWL.out; simp; omega) HB.out.size ?_
                intro A25 c25 w25 ho hg _
                have hb7 := HO.out.belowGrown HB.out hg (Nat.le_refl _) HB.out.size
                have hlz := HO.out.block_lt
                have HXe := Lib.hid (HXe.out.grown hg (fun k hk => Nat.lt_of_lt_of_le (HLT.out k hk) HXbe.out))
                have HSZ := Lib.hid (Nat.le_trans HSZ.out hg.size)
                have HO := Lib.hid ho
                have HB := Lib.hid hb7
                clear ho hg hb7 hlz
                have HQ := Lib.hid (HQ0.out.below HB.out)
                refine hK _ _ (HQ.out.sb.cell 1) ?_
                have hHeld := (show (w25).cell? ⟨w.heap.size, 1, none⟩ = some (.slice A l.length c) from HQ.out.sb.cell 1)
                clear hK K
                simp only [Act.put, List.setIfInBounds_toArray, List.set_cons_zero, List.set_cons_succ]
                refine held_call 10 47 rfl rfl (by kernel_rfl) (by rfl) (fun K hK => ?_)
                refine wp_app (w25) elemB encB (.tmp 41) (.tmp 46) rfl W0.heap.size _ (wordTo rd 8 ++ [onB o0 o1 o2]) (by simp [Act.eval]) HO.out _ [UInt8.ofNat l.length] 1 (by simp [Act.eval]) HXe.out.rds (by have := HWL.out; simp; omega) (by have := HWL.out; simp; omega) HB.out.size ?_
                intro A26 c26 w26 ho hg _
                have hb7 := HO.out.belowGrown HB.out hg (Nat.le_refl _) HB.out.size
                have hlz := HO.out.block_lt
                have HSZ := Lib.hid (Nat.le_trans HSZ.out hg.size)
                have HO := Lib.hid ho
                have HB := Lib.hid hb7
                clear ho hg hb7 hlz
                have HQ := Lib.hid (HQ0.out.below HB.out)
                refine hK _ _ (HQ.out.sb.cell 1) ?_
                have hHeld := (show (w26).cell? ⟨w.heap.size, 1, none⟩ = some (.slice A l.length c) from HQ.out.sb.cell 1)
                clear hK K
                simp only [Act.put, List.setIfInBounds_toArray, List.set_cons_zero, List.set_cons_succ]
                refine held_take 11 3 (.slice A26 ((wordTo rd 8 ++ [onB o0 o1 o2]).length + [UInt8.ofNat l.length].length) c26) rfl rfl (by kernel_rfl) (by kernel_rfl) (by kernel_rfl) (fun _ _ _ h => h) (by rfl) (by intro w' hSw; (try dsimp only at hSw); go_simp; (try (with_reducible rfl))) (by assumption) ?_
                simp only [Act.put, List.setIfInBounds_toArray, List.set_cons_zero, List.set_cons_succ]
                refine wpAnyH_done (by kernel_rfl) ?_ _
                clear hHeld
                go_wp2_with fail
                go_meet
                exact ⟨A26, c26, by rw [HHL.out]; simp, by have h := HO.out; rw [HHD.out]; simpa [List.append_assoc] using h, HB.out⟩
            case rest =>
              obtain ⟨A5, c5, rfl, ho5, hb5⟩ := hcut
              clear HO HB HQ iw iw2 HHL HHD HWL hbd0 hbd1 hbd2 hbe0 hbe1 hbe2
              have HO := Lib.hid ho5
              have HB := Lib.hid hb5
              clear ho5 hb5
              go_wp2_with fail
              go_loopw [3, 7] (fun b ii wq => ∃ (i : Nat) (A1 : Option Addr) (c1 : Nat), i ≤ l.length ∧ ii = .int .i64 i ∧ b = .slice A1 (upB rd o0 o1 o2 l i).length c1 ∧ Own wq W0.heap.size 5 encB (.slice A1 (upB rd o0 o1 o2 l i).length c1) (upB rd o0 o1 o2 l i) ∧ Below W0.heap.size W0 wq) (fun _ ii _ => l.length - (intOf ii).toNat)
              case atStart => exact ⟨0, A5, c5, by omega, rfl, by rw [upB_zero], by rw [upB_zero]; exact HO.out, HB.out⟩
              case round =>
                clear HO HB
                obtain ⟨i, A1, c1, hi, rfl, rfl, ho, hbl⟩ := hrel
                have HO := Lib.hid ho
                have HB := Lib.hid hbl
                clear ho hbl
                have HQ := Lib.hid (HQ0.out.below HB.out)
                have cs := HQ.out.sb.cell
                by_cases hlt : i < l.length
                · have dk : decide ((i : Int) < (l.length : Int)) = true := decide_eq_true (by omega)
                  have dk2 : (i : Int) < (l.length : Int) := by omega
                  obtain ⟨b0, off, hA, _⟩ := HR0.out.en hlt
                  obtain rfl : A = some ⟨b0, off, none⟩ := hA
                  have HXI := Lib.hid (List.getElem?_eq_getElem hlt)
                  have HXP := Lib.hid (And.intro (HW.out _ (List.getElem_mem hlt)) (HRG.out _ (List.getElem_mem hlt)).1)
                  have HPH := Lib.hid (HRG.out _ (List.getElem_mem hlt)).2
                  have HPW := Lib.hid (bytes_len HXP.out.2).1
                  have HSN := Lib.hid (upB_snoc rd o0 o1 o2 l i hlt)
                  have HLL := Lib.hid (upB_len (rd := rd) (a := o0) (b := o1) (c := o2) (l := l) (fun x hx => (HRG.out x hx).1) i (by omega))
                  generalize upB rd o0 o1 o2 l i = LL at *
                  generalize hxe : l[i] = x at *
                  clear hxe
                  have HPB := Lib.hid (show ((UInt8.ofNat x.phase.toNat).toNat : Int) = x.phase by have := HPH.out; rw [UInt8.toNat_ofNat']; omega)
                  have iw : IntKind.u8.wrap x.phase = x.phase := by have := HPH.out; simp [IntKind.wrap, IntKind.bits, IntKind.signed]; omega
                  go_wp2_with fail
                  clear cs
                  have HQd := Lib.hid (HQ0.out.below HB.out).drew
                  have HRd := Lib.hid (HR0.out.below HB.out).drew
                  obtain ⟨z0, z1, z2, z3, z4, z5, z6, z7, z8, z9, z10, z11⟩ := HRd.out.enAt (Below.refl _ _) HXI.out
                  refine wp_region_held_drew (S := (fun w' => w'.cell? ⟨w.heap.size, 1, none⟩ = some (.slice (some ⟨b0, off, none⟩) l.length c) ∧ w'.cell? ⟨b0, off + i * 12, none⟩ = some (.string x.pod.id) ∧ w'.cell? ⟨b0, off + i * 12 + 1, none⟩ = some (.int .i64 x.pod.prio) ∧ w'.cell? ⟨b0, off + i * 12 + 2, none⟩ = some (.bool x.pod.crit) ∧ w'.cell? ⟨b0, off + i * 12 + 3, none⟩ = some (.int .i64 x.pod.q0) ∧ w'.cell? ⟨b0, off + i * 12 + 4, none⟩ = some (.int .i64 x.pod.q1) ∧ w'.cell? ⟨b0, off + i * 12 + 5, none⟩ = some (.int .i64 x.pod.q2) ∧ w'.cell? ⟨b0, off + i * 12 + 6, none⟩ = some (.int .i64 x.pod.l0) ∧ w'.cell? ⟨b0, off + i * 12 + 7, none⟩ = some (.int .i64 x.pod.l1) ∧ w'.cell? ⟨b0, off + i * 12 + 8, none⟩ = some (.int .i64 x.pod.l2) ∧ w'.cell? ⟨b0, off + i * 12 + 9, none⟩ = some (.string x.pod.image) ∧ w'.cell? ⟨b0, off + i * 12 + 10, none⟩ = some (.int .i64 x.pod.size) ∧ w'.cell? ⟨b0, off + i * 12 + 11, none⟩ = some (.int .i64 x.phase))) (by kernel_rfl) (⟨HQd.out.sb.cell 1, z0, z1, z2, z3, z4, z5, z6, z7, z8, z9, z10, z11⟩) (fun hHeld => ?_)
                  clear HQd HRd z0  z1  z2  z3  z4  z5  z6  z7  z8  z9  z10  z11
                  have HB := Lib.hid HB.out.drew
                  have HO := Lib.hid HO.out.drew
                  rename World => wz
                  generalize wz.drew = wd at *
                  have HSZ := Lib.hid (Nat.le_refl wd.heap.size)
                  have HLT := Lib.hid (fun k hk => (HO.out.block_lt k hk).2)
                  refine held_take 0 55 (.slice A1 LL.length c1) rfl rfl (by kernel_rfl) (by kernel_rfl) (by kernel_rfl) (fun _ _ _ h => h) (by rfl) (by intro w' hSw; (try dsimp only at hSw); go_simp; (try (with_reducible rfl))) (by assumption) ?_
                  simp only [Act.put, List.setIfInBounds_toArray, List.set_cons_zero, List.set_cons_succ]
                  refine held_take 1 56 (.pointer (some ⟨w.heap.size, 1, none⟩)) rfl rfl (by kernel_rfl) (by kernel_rfl) (by kernel_rfl) (fun _ _ _ h => h) (by rfl) (by intro w' hSw; (try dsimp only at hSw); go_simp; (try (with_reducible rfl))) (by assumption) ?_
                  simp only [Act.put, List.setIfInBounds_toArray, List.set_cons_zero, List.set_cons_succ]
                  refine held_take 2 57 (.slice (some ⟨b0, off, none⟩) l.length c) rfl rfl (by kernel_rfl) (by kernel_rfl) (by kernel_rfl) (fun _ _ _ h => h) (by rfl) (by intro w' hSw; (try dsimp only at hSw); go_simp; (try (with_reducible rfl))) (by assumption) ?_
                  simp only [Act.put, List.setIfInBounds_toArray, List.set_cons_zero, List.set_cons_succ]
                  refine held_take 3 58 (.int .i64 i) rfl rfl (by kernel_rfl) (by kernel_rfl) (by kernel_rfl) (fun _ _ _ h => h) (by rfl) (by intro w' hSw; (try dsimp only at hSw); go_simp; (try (with_reducible rfl))) (by assumption) ?_
                  simp only [Act.put, List.setIfInBounds_toArray, List.set_cons_zero, List.set_cons_succ]
                  refine held_take 4 59 (.pointer (some ⟨b0, off + i * 12, none⟩)) rfl rfl (by kernel_rfl) (by kernel_rfl) (by kernel_rfl) (fun _ _ _ h => h) (by rfl) (by intro w' hSw; (try dsimp only at hSw); go_simp; (try (with_reducible rfl))) (by assumption) ?_
                  simp only [Act.put, List.setIfInBounds_toArray, List.set_cons_zero, List.set_cons_succ]
                  refine held_take 5 60 (.pointer (some ⟨b0, off + i * 12 + 11, none⟩)) rfl rfl (by kernel_rfl) (by kernel_rfl) (by kernel_rfl) (fun _ _ _ h => h) (by rfl) (by intro w' hSw; (try dsimp only at hSw); go_simp; (try (with_reducible rfl))) (by assumption) ?_
                  simp only [Act.put, List.setIfInBounds_toArray, List.set_cons_zero, List.set_cons_succ]
                  refine held_take 6 61 (.int .i64 x.phase) rfl rfl (by kernel_rfl) (by kernel_rfl) (by kernel_rfl) (fun _ _ _ h => h) (by rfl) (by intro w' hSw; (try dsimp only at hSw); go_simp; (try (with_reducible rfl))) (by assumption) ?_
                  simp only [Act.put, List.setIfInBounds_toArray, List.set_cons_zero, List.set_cons_succ]
                  refine held_take 7 62 (.int .u8 x.phase) rfl rfl (by kernel_rfl) (by kernel_rfl) (by kernel_rfl) (fun _ _ _ h => h) (by rfl) (by intro w' hSw; (try dsimp only at hSw); go_simp; (try (with_reducible rfl))) (by assumption) ?_
                  simp only [Act.put, List.setIfInBounds_toArray, List.set_cons_zero, List.set_cons_succ]
                  refine held_take 10 65 (.pointer (some ⟨w.heap.size, 1, none⟩)) rfl rfl (by kernel_rfl) (by kernel_rfl) (by kernel_rfl) (fun _ _ _ h => h) (by rfl) (by intro w' hSw; (try dsimp only at hSw); go_simp; (try (with_reducible rfl))) (by assumption) ?_
                  simp only [Act.put, List.setIfInBounds_toArray, List.set_cons_zero, List.set_cons_succ]
                  refine held_take 11 66 (.slice (some ⟨b0, off, none⟩) l.length c) rfl rfl (by kernel_rfl) (by kernel_rfl) (by kernel_rfl) (fun _ _ _ h => h) (by rfl) (by intro w' hSw; (try dsimp only at hSw); go_simp; (try (with_reducible rfl))) (by assumption) ?_
                  simp only [Act.put, List.setIfInBounds_toArray, List.set_cons_zero, List.set_cons_succ]
                  refine held_take 12 67 (.int .i64 i) rfl rfl (by kernel_rfl) (by kernel_rfl) (by kernel_rfl) (fun _ _ _ h => h) (by rfl) (by intro w' hSw; (try dsimp only at hSw); go_simp; (try (with_reducible rfl))) (by assumption) ?_
                  simp only [Act.put, List.setIfInBounds_toArray, List.set_cons_zero, List.set_cons_succ]
                  refine held_take 13 68 (.pointer (some ⟨b0, off + i * 12, none⟩)) rfl rfl (by kernel_rfl) (by kernel_rfl) (by kernel_rfl) (fun _ _ _ h => h) (by rfl) (by intro w' hSw; (try dsimp only at hSw); go_simp; (try (with_reducible rfl))) (by assumption) ?_
                  simp only [Act.put, List.setIfInBounds_toArray, List.set_cons_zero, List.set_cons_succ]
                  refine held_take 14 69 (.pointer (some ⟨b0, off + i * 12, none⟩)) rfl rfl (by kernel_rfl) (by kernel_rfl) (by kernel_rfl) (fun _ _ _ h => h) (by rfl) (by intro w' hSw; (try dsimp only at hSw); go_simp; (try (with_reducible rfl))) (by assumption) ?_
                  simp only [Act.put, List.setIfInBounds_toArray, List.set_cons_zero, List.set_cons_succ]
                  refine held_take 15 70 (.agg #[.string x.pod.id, .int .i64 x.pod.prio, .bool x.pod.crit, .int .i64 x.pod.q0, .int .i64 x.pod.q1, .int .i64 x.pod.q2, .int .i64 x.pod.l0, .int .i64 x.pod.l1, .int .i64 x.pod.l2, .string x.pod.image, .int .i64 x.pod.size]) rfl rfl (by kernel_rfl) (by kernel_rfl) (by kernel_rfl) (fun _ _ _ h => h) (by rfl) (by intro w' hSw; (try dsimp only at hSw); go_simp; (try (with_reducible rfl))) (by assumption) ?_
                  simp only [Act.put, List.setIfInBounds_toArray, List.set_cons_zero, List.set_cons_succ]
                  refine held_call 8 63 rfl rfl (by kernel_rfl) (by rfl) (fun K hK => ?_)
                  go_simp
                  have HXa := Lib.hid (Rdf.made (wd) encB [UInt8.ofNat x.phase.toNat] 5 #[.int .u8 x.phase] (0, 0) (by rw [encB_all, List.map_cons]; exact congrArg (fun z => [Value.int .u8 z]) HPB.out.symm))
                  have HXba := Lib.hid HSZ.out
                  have HO := Lib.hid (HO.out.alloc (.cells #[.int .u8 x.phase] 5))
                  have HB := Lib.hid (HB.out.alloc HB.out.size (.cells #[.int .u8 x.phase] 5))
                  have HSZ := Lib.hid (show wd.heap.size ≤ ((wd).alloc (.cells #[.int .u8 x.phase] 5)).heap.size by have := HSZ.out; simp <;> omega)
                  have HQ := Lib.hid (HQ0.out.below HB.out)
                  have HRi := Lib.hid (HR0.out.below HB.out)
                  obtain ⟨z0, z1, z2, z3, z4, z5, z6, z7, z8, z9, z10, z11⟩ := HRi.out.enAt (Below.refl _ _) HXI.out
                  refine hK _ _ (⟨HQ.out.sb.cell 1, z0, z1, z2, z3, z4, z5, z6, z7, z8, z9, z10, z11⟩) ?_
                  have hHeld := (show ((wd).alloc (.cells #[.int .u8 x.phase] 5)).cell? ⟨w.heap.size, 1, none⟩ = some (.slice (some ⟨b0, off, none⟩) l.length c) ∧ ((wd).alloc (.cells #[.int .u8 x.phase] 5)).cell? ⟨b0, off + i * 12, none⟩ = some (.string x.pod.id) ∧ ((wd).alloc (.cells #[.int .u8 x.phase] 5)).cell? ⟨b0, off + i * 12 + 1, none⟩ = some (.int .i64 x.pod.prio) ∧ ((wd).alloc (.cells #[.int .u8 x.phase] 5)).cell? ⟨b0, off + i * 12 + 2, none⟩ = some (.bool x.pod.crit) ∧ ((wd).alloc (.cells #[.int .u8 x.phase] 5)).cell? ⟨b0, off + i * 12 + 3, none⟩ = some (.int .i64 x.pod.q0) ∧ ((wd).alloc (.cells #[.int .u8 x.phase] 5)).cell? ⟨b0, off + i * 12 + 4, none⟩ = some (.int .i64 x.pod.q1) ∧ ((wd).alloc (.cells #[.int .u8 x.phase] 5)).cell? ⟨b0, off + i * 12 + 5, none⟩ = some (.int .i64 x.pod.q2) ∧ ((wd).alloc (.cells #[.int .u8 x.phase] 5)).cell? ⟨b0, off + i * 12 + 6, none⟩ = some (.int .i64 x.pod.l0) ∧ ((wd).alloc (.cells #[.int .u8 x.phase] 5)).cell? ⟨b0, off + i * 12 + 7, none⟩ = some (.int .i64 x.pod.l1) ∧ ((wd).alloc (.cells #[.int .u8 x.phase] 5)).cell? ⟨b0, off + i * 12 + 8, none⟩ = some (.int .i64 x.pod.l2) ∧ ((wd).alloc (.cells #[.int .u8 x.phase] 5)).cell? ⟨b0, off + i * 12 + 9, none⟩ = some (.string x.pod.image) ∧ ((wd).alloc (.cells #[.int .u8 x.phase] 5)).cell? ⟨b0, off + i * 12 + 10, none⟩ = some (.int .i64 x.pod.size) ∧ ((wd).alloc (.cells #[.int .u8 x.phase] 5)).cell? ⟨b0, off + i * 12 + 11, none⟩ = some (.int .i64 x.phase) from ⟨HQ.out.sb.cell 1, z0, z1, z2, z3, z4, z5, z6, z7, z8, z9, z10, z11⟩)
                  clear hK K
                  clear z0  z1  z2  z3  z4  z5  z6  z7  z8  z9  z10  z11
                  simp only [Act.put, List.setIfInBounds_toArray, List.set_cons_zero, List.set_cons_succ]
                  refine held_call 9 64 rfl rfl (by kernel_rfl) (by rfl) (fun K hK => ?_)
                  refine wp_app ((wd).alloc (.cells #[.int .u8 x.phase] 5)) elemB encB (.tmp 55) (.tmp 63) rfl W0.heap.size _ (LL) (by simp [Act.eval]) HO.out _ [UInt8.ofNat x.phase.toNat] 1 (by simp [Act.eval]) HXa.out.rds (by have := HLL.out; have := HPW.out; simp; omega) (by have := HLL.out; have := HPW.out; simp; omega) HB.out.size ?_
                  intro A21 c21 w21 ho hg _
                  have hb7 := HO.out.belowGrown HB.out hg (Nat.le_refl _) HB.out.size
                  have hlz := HO.out.block_lt
                  have HSZ := Lib.hid (Nat.le_trans HSZ.out hg.size)
                  have HO := Lib.hid ho
                  have HB := Lib.hid hb7
                  clear ho hg hb7 hlz
                  have HQ := Lib.hid (HQ0.out.below HB.out)
                  have HRi := Lib.hid (HR0.out.below HB.out)
                  obtain ⟨z0, z1, z2, z3, z4, z5, z6, z7, z8, z9, z10, z11⟩ := HRi.out.enAt (Below.refl _ _) HXI.out
                  refine hK _ _ (⟨HQ.out.sb.cell 1, z0, z1, z2, z3, z4, z5, z6, z7, z8, z9, z10, z11⟩) ?_
                  have hHeld := (show (w21).cell? ⟨w.heap.size, 1, none⟩ = some (.slice (some ⟨b0, off, none⟩) l.length c) ∧ (w21).cell? ⟨b0, off + i * 12, none⟩ = some (.string x.pod.id) ∧ (w21).cell? ⟨b0, off + i * 12 + 1, none⟩ = some (.int .i64 x.pod.prio) ∧ (w21).cell? ⟨b0, off + i * 12 + 2, none⟩ = some (.bool x.pod.crit) ∧ (w21).cell? ⟨b0, off + i * 12 + 3, none⟩ = some (.int .i64 x.pod.q0) ∧ (w21).cell? ⟨b0, off + i * 12 + 4, none⟩ = some (.int .i64 x.pod.q1) ∧ (w21).cell? ⟨b0, off + i * 12 + 5, none⟩ = some (.int .i64 x.pod.q2) ∧ (w21).cell? ⟨b0, off + i * 12 + 6, none⟩ = some (.int .i64 x.pod.l0) ∧ (w21).cell? ⟨b0, off + i * 12 + 7, none⟩ = some (.int .i64 x.pod.l1) ∧ (w21).cell? ⟨b0, off + i * 12 + 8, none⟩ = some (.int .i64 x.pod.l2) ∧ (w21).cell? ⟨b0, off + i * 12 + 9, none⟩ = some (.string x.pod.image) ∧ (w21).cell? ⟨b0, off + i * 12 + 10, none⟩ = some (.int .i64 x.pod.size) ∧ (w21).cell? ⟨b0, off + i * 12 + 11, none⟩ = some (.int .i64 x.phase) from ⟨HQ.out.sb.cell 1, z0, z1, z2, z3, z4, z5, z6, z7, z8, z9, z10, z11⟩)
                  clear hK K
                  clear z0  z1  z2  z3  z4  z5  z6  z7  z8  z9  z10  z11
                  simp only [Act.put, List.setIfInBounds_toArray, List.set_cons_zero, List.set_cons_succ]
                  refine held_call 16 71 rfl rfl (by kernel_rfl) (by rfl) (fun K hK => ?_)
                  go_simp
                  go_at_call 35; (with_reducible refine (refPut_any x.pod _ HXP.out.1 HXP.out.2).mono ?_); rintro e w22 ⟨A8, c8, rfl, ho, hb⟩
                  have HXe := Lib.hid ho.rdf
                  have HXbe := Lib.hid HSZ.out
                  have HO := Lib.hid (HO.out.below hb (Nat.le_refl _))
                  have HSZ := Lib.hid (Nat.le_trans HSZ.out hb.size)
                  have HB := Lib.hid (below_rV HB.out hb)
                  clear ho hb
                  have HQ := Lib.hid (HQ0.out.below HB.out)
                  have HRi := Lib.hid (HR0.out.below HB.out)
                  obtain ⟨z0, z1, z2, z3, z4, z5, z6, z7, z8, z9, z10, z11⟩ := HRi.out.enAt (Below.refl _ _) HXI.out
                  refine hK _ _ (⟨HQ.out.sb.cell 1, z0, z1, z2, z3, z4, z5, z6, z7, z8, z9, z10, z11⟩) ?_
                  have hHeld := (show (w22).cell? ⟨w.heap.size, 1, none⟩ = some (.slice (some ⟨b0, off, none⟩) l.length c) ∧ (w22).cell? ⟨b0, off + i * 12, none⟩ = some (.string x.pod.id) ∧ (w22).cell? ⟨b0, off + i * 12 + 1, none⟩ = some (.int .i64 x.pod.prio) ∧ (w22).cell? ⟨b0, off + i * 12 + 2, none⟩ = some (.bool x.pod.crit) ∧ (w22).cell? ⟨b0, off + i * 12 + 3, none⟩ = some (.int .i64 x.pod.q0) ∧ (w22).cell? ⟨b0, off + i * 12 + 4, none⟩ = some (.int .i64 x.pod.q1) ∧ (w22).cell? ⟨b0, off + i * 12 + 5, none⟩ = some (.int .i64 x.pod.q2) ∧ (w22).cell? ⟨b0, off + i * 12 + 6, none⟩ = some (.int .i64 x.pod.l0) ∧ (w22).cell? ⟨b0, off + i * 12 + 7, none⟩ = some (.int .i64 x.pod.l1) ∧ (w22).cell? ⟨b0, off + i * 12 + 8, none⟩ = some (.int .i64 x.pod.l2) ∧ (w22).cell? ⟨b0, off + i * 12 + 9, none⟩ = some (.string x.pod.image) ∧ (w22).cell? ⟨b0, off + i * 12 + 10, none⟩ = some (.int .i64 x.pod.size) ∧ (w22).cell? ⟨b0, off + i * 12 + 11, none⟩ = some (.int .i64 x.phase) from ⟨HQ.out.sb.cell 1, z0, z1, z2, z3, z4, z5, z6, z7, z8, z9, z10, z11⟩)
                  clear hK K
                  clear z0  z1  z2  z3  z4  z5  z6  z7  z8  z9  z10  z11
                  simp only [Act.put, List.setIfInBounds_toArray, List.set_cons_zero, List.set_cons_succ]
                  refine held_call 17 72 rfl rfl (by kernel_rfl) (by rfl) (fun K hK => ?_)
                  refine wp_app (w22) elemB encB (.tmp 64) (.tmp 71) rfl W0.heap.size _ (LL ++ [UInt8.ofNat x.phase.toNat]) (by simp [Act.eval]) HO.out _ x.pod.bytes c8 (by simp [Act.eval]) HXe.out.rds (by have := HLL.out; have := HPW.out; simp; omega) (by have := HLL.out; have := HPW.out; simp; omega) HB.out.size ?_
                  intro A23 c23 w23 ho hg _
                  have hb7 := HO.out.belowGrown HB.out hg (Nat.le_refl _) HB.out.size
                  have hlz := HO.out.block_lt
                  have HSZ := Lib.hid (Nat.le_trans HSZ.out hg.size)
                  have HO := Lib.hid ho
                  have HB := Lib.hid hb7
                  clear ho hg hb7 hlz
                  have HQ := Lib.hid (HQ0.out.below HB.out)
                  have HRi := Lib.hid (HR0.out.below HB.out)
                  obtain ⟨z0, z1, z2, z3, z4, z5, z6, z7, z8, z9, z10, z11⟩ := HRi.out.enAt (Below.refl _ _) HXI.out
                  refine hK _ _ (⟨HQ.out.sb.cell 1, z0, z1, z2, z3, z4, z5, z6, z7, z8, z9, z10, z11⟩) ?_
                  have hHeld := (show (w23).cell? ⟨w.heap.size, 1, none⟩ = some (.slice (some ⟨b0, off, none⟩) l.length c) ∧ (w23).cell? ⟨b0, off + i * 12, none⟩ = some (.string x.pod.id) ∧ (w23).cell? ⟨b0, off + i * 12 + 1, none⟩ = some (.int .i64 x.pod.prio) ∧ (w23).cell? ⟨b0, off + i * 12 + 2, none⟩ = some (.bool x.pod.crit) ∧ (w23).cell? ⟨b0, off + i * 12 + 3, none⟩ = some (.int .i64 x.pod.q0) ∧ (w23).cell? ⟨b0, off + i * 12 + 4, none⟩ = some (.int .i64 x.pod.q1) ∧ (w23).cell? ⟨b0, off + i * 12 + 5, none⟩ = some (.int .i64 x.pod.q2) ∧ (w23).cell? ⟨b0, off + i * 12 + 6, none⟩ = some (.int .i64 x.pod.l0) ∧ (w23).cell? ⟨b0, off + i * 12 + 7, none⟩ = some (.int .i64 x.pod.l1) ∧ (w23).cell? ⟨b0, off + i * 12 + 8, none⟩ = some (.int .i64 x.pod.l2) ∧ (w23).cell? ⟨b0, off + i * 12 + 9, none⟩ = some (.string x.pod.image) ∧ (w23).cell? ⟨b0, off + i * 12 + 10, none⟩ = some (.int .i64 x.pod.size) ∧ (w23).cell? ⟨b0, off + i * 12 + 11, none⟩ = some (.int .i64 x.phase) from ⟨HQ.out.sb.cell 1, z0, z1, z2, z3, z4, z5, z6, z7, z8, z9, z10, z11⟩)
                  clear hK K
                  clear z0  z1  z2  z3  z4  z5  z6  z7  z8  z9  z10  z11
                  simp only [Act.put, List.setIfInBounds_toArray, List.set_cons_zero, List.set_cons_succ]
                  refine held_take 18 3 (.slice A23 ((LL ++ [UInt8.ofNat x.phase.toNat]).length + x.pod.bytes.length) c23) rfl rfl (by kernel_rfl) (by kernel_rfl) (by kernel_rfl) (fun _ _ _ h => h) (by rfl) (by intro w' hSw; (try dsimp only at hSw); go_simp; (try (with_reducible rfl))) (by assumption) ?_
                  simp only [Act.put, List.setIfInBounds_toArray, List.set_cons_zero, List.set_cons_succ]
                  refine wpAnyH_done (by kernel_rfl) ?_ _
                  clear hHeld
                  go_wp2_with fail
                  go_roundw
                  case rel => exact ⟨i + 1, A23, c23, by omega, by go_num, by rw [HSN.out]; simp [entB, Nat.add_assoc, Nat.add_comm], by have h := HO.out; rw [HSN.out]; simpa [entB, List.append_assoc, Nat.add_assoc, Nat.add_comm, Nat.add_left_comm] using h, HB.out⟩
                  case measure => simp [intOf]; omega
                · obtain rfl : i = l.length := by omega
                  have dk : decide ((l.length : Int) < (l.length : Int)) = false := by simp
                  have HUP := Lib.hid (upB_all rd o0 o1 o2 l)
                  go_wp2_with fail
                  go_ret
                  rw [HUP.out] at HO
                  exact ⟨A1, c1, by (try rw [HUP.out]); rfl, HO.out.mono HQ0.out.bel.size, below_rV HQ0.out.bel HB.out⟩
end Go.Proofs.YtakgblgbfbpmoaaDoor
