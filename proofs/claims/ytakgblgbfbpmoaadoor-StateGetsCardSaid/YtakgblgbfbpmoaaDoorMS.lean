/- Several texts in one: bilgeref24.Few, Find, Without, With; state.Fits. -/
import Derived.Test.YtakgblgbfbpmoaaDoorMK
import Derived.Test.YtakgblgbfbpmoaaDoorMC
namespace Go.Proofs.YtakgblgbfbpmoaaDoor
open Go.RowKit

theorem fld_S1 (x0 x1 x2 x3 x4 : Value) (w : World) : (Instr.field 25 (.agg #[x0, x1, x2, x3, x4]) 1).run Tryd.prog w = .ok x1 w := by kernel_rfl
attribute [go_sem] fld_S1
/-! ### Few -/
def fewS (l : List En) : Bool := (l.take 200).all (fun e => e.pod.small) && decide (l.length ≤ 70)
theorem fewS_no (l : List En) (k : Nat) (hk : k < l.length) (h2 : k < 200) (h : l[k].pod.small = false) : fewS l = false := by
  have : (l.take 200).all (fun e => e.pod.small) = false := by
    rw [List.all_eq_false]
    exact ⟨l[k], List.mem_take_iff_getElem.2 ⟨k, by omega, rfl⟩, by rw [h]; simp⟩
  unfold fewS; rw [this]; rfl
theorem fewS_yes (l : List En) (k : Nat) (hk : k ≤ l.length) (h2 : k ≤ 200) (he : ¬ (k < l.length ∧ k < 200)) (h : (l.take k).all (fun e => e.pod.small) = true) : fewS l = decide ((l.length : Int) ≤ 70) := by
  have h3 : (l.take 200).all (fun e => e.pod.small) = true := by
    rcases Nat.lt_or_ge k 200 with h4 | h4
    · obtain rfl : k = l.length := by omega
      rw [List.take_length] at h
      rw [List.take_of_length_le (by omega)]; exact h
    · obtain rfl : k = 200 := by omega
      exact h
  unfold fewS
  rw [h3, Bool.true_and]
  by_cases h5 : l.length ≤ 70
  · rw [decide_eq_true h5, decide_eq_true (by omega)]
  · rw [decide_eq_false h5, decide_eq_false (by omega)]
theorem all_snocS (l : List En) (k : Nat) (hk : k < l.length) (h : (l.take k).all (fun e => e.pod.small) = true) (h2 : l[k].pod.small = true) : (l.take (k + 1)).all (fun e => e.pod.small) = true := by
  rw [List.take_succ_eq_append_getElem hk, List.all_append, h]; simp [h2]
set_option maxRecDepth 100000 in
set_option maxHeartbeats 4000000 in
theorem few24_any {l : List En} {v : Bool} (hv : fewS l = v) (rd : Int) (A : Option Addr) (c : Nat) (o0 o1 o2 : Bool) (w : World) (hr : Rds w encN A l) (hm : l.length ≤ 9223372036854775807) :
    Calls Tryd.prog 12 #[.agg #[.int .i64 rd, .slice A l.length c, .bool o0, .bool o1, .bool o2]] w fun e w' => e = .returned (.bool v) ∧ Below w.heap.size w w' := by
  have HQ := Lib.hid (SQ.new rd A l c o0 o1 o2 w)
  have HR := Lib.hid hr
  clear hr
  have HV := Lib.hid hv
  clear hv
  go_enter Tryd.func12, Tryd.ntmps12
  go_wp2_with fail
  generalize w.alloc (.cells #[.int .i64 rd, .slice A l.length c, .bool o0, .bool o1, .bool o2] 25) = w0 at *
  go_loopw [3] (fun ii wr => ∃ i : Nat, i ≤ l.length ∧ i ≤ 200 ∧ ii = .int .i64 i ∧ (l.take i).all (fun e => e.pod.small) = true ∧ SQ rd A l c o0 o1 o2 w wr) (fun ii _ => l.length - (intOf ii).toNat)
  case atStart => exact ⟨0, by omega, by omega, rfl, rfl, HQ.out⟩
  case round =>
    clear HQ
    obtain ⟨i, hi, hi2, rfl, hal, hq⟩ := hrel
    have HAL := Lib.hid hal
    have HQ := Lib.hid hq
    clear hal hq
    have cs := HQ.out.sb.cell
    by_cases hlt : i < l.length
    · obtain ⟨b, off, hA, _⟩ := HR.out.en hlt
      obtain rfl : A = some ⟨b, off, none⟩ := hA
      have dk : decide ((i : Int) < (l.length : Int)) = true := decide_eq_true (by omega)
      have dk2 : (i : Int) < (l.length : Int) := by omega
      have HXI := Lib.hid (List.getElem?_eq_getElem hlt)
      by_cases h2 : i < 200
      · have d2 : decide ((i : Int) < 200) = true := decide_eq_true (by omega)
        have HNO := Lib.hid (fewS_no l i hlt h2)
        have HSN := Lib.hid (all_snocS l i hlt HAL.out)
        generalize l[i] = x at *
        obtain ⟨x0, x1, x2, x3, x4, x5, x6, x7, x8, x9, x10, x11⟩ := HR.out.enAt HQ.out.bel HXI.out
        cases hs : x.pod.small
        · have HN := Lib.hid (HNO.out hs)
          have HS := Lib.hid hs
          clear hs
          go_wp2_with fail
          refine (smallV_any HS.out _).mono ?_; rintro e w1 ⟨rfl, hb⟩
          have HQ := Lib.hid (HQ.out.below hb)
          clear hb cs x0  x1  x2  x3  x4  x5  x6  x7  x8  x9  x10  x11
          go_wp2_with fail
          go_ret
          exact ⟨ret_bool (HN.out.symm.trans HV.out), HQ.out.bel⟩
        · have HN := Lib.hid (HSN.out hs)
          have HS := Lib.hid hs
          clear hs
          go_wp2_with fail
          refine (smallV_any HS.out _).mono ?_; rintro e w1 ⟨rfl, hb⟩
          have HQ := Lib.hid (HQ.out.below hb)
          clear hb cs x0  x1  x2  x3  x4  x5  x6  x7  x8  x9  x10  x11
          go_wp2_with fail
          go_roundw
          case rel => exact ⟨i + 1, by omega, by omega, by go_num, HN.out, HQ.out⟩
          case measure => simp [intOf]; omega
      · have d2 : decide ((i : Int) < 200) = false := decide_eq_false (by omega)
        have HN := Lib.hid ((fewS_yes l i (by omega) hi2 (by omega) HAL.out).symm.trans HV.out)
        go_wp2_with fail
        go_ret
        exact ⟨ret_bool HN.out, HQ.out.bel⟩
    · obtain rfl : i = l.length := by omega
      have dk : decide ((l.length : Int) < (l.length : Int)) = false := by simp
      have HN := Lib.hid ((fewS_yes l l.length (by omega) hi2 (by omega) HAL.out).symm.trans HV.out)
      go_wp2_with fail
      go_ret
      exact ⟨ret_bool HN.out, HQ.out.bel⟩
theorem fewS_small {l : List En} (h : fewS l = true) : l.length ≤ 70 ∧ ∀ x ∈ l, x.pod.small = true := by
  unfold fewS at h
  rw [Bool.and_eq_true, decide_eq_true_eq] at h
  refine ⟨h.2, fun x hx => ?_⟩
  have := List.all_eq_true.1 h.1 x (by rw [List.take_of_length_le (by omega)]; exact hx)
  exact this

/-! ### Find -/
theorem lower_at {l : List En} (hs : SortedN l) {k : Nat} (hk : k < l.length) : lowerI l l[k].pod.id = k :=
  countP_bound _ l k (by omega) (fun t ht h => hs t k h hk) (fun t ht h => by
    rcases Nat.lt_or_ge k t with h1 | h1
    · cases h2 : blt l[t].pod.id l[k].pod.id
      · rfl
      · have := blt_trans h2 (hs k t h1 ht)
        rw [blt_irrefl] at this; cases this
    · obtain rfl : t = k := by omega
      exact blt_irrefl _)
theorem isAt_at {l : List En} (hs : SortedN l) {k : Nat} (hk : k < l.length) : isAt l l[k].pod.id = true := by
  unfold isAt
  rw [lower_at hs hk, List.getElem?_eq_getElem hk]
  simp
theorem isAt_no {l : List En} {s : ByteArray} (h : NotIn l s l.length) : isAt l s = false := by
  cases e : isAt l s
  · rfl
  · obtain ⟨hi, h2⟩ := isAt_lt e
    exact absurd h2 (h _ hi hi)
def findR (l : List En) (s : ByteArray) : Int := if isAt l s = true then lowerI l s else -1
set_option maxRecDepth 100000 in
set_option maxHeartbeats 4000000 in
theorem find24_any {l : List En} {s : ByteArray} {k : Int} (hk : findR l s = k) (hs : SortedN l) (rd : Int) (A : Option Addr) (c : Nat) (o0 o1 o2 : Bool) (w : World) (hr : Rds w encN A l) (hm : l.length ≤ 9223372036854775807) :
    Calls Tryd.prog 26 #[.agg #[.int .i64 rd, .slice A l.length c, .bool o0, .bool o1, .bool o2], .string s] w fun e w' => e = .returned (.int .i64 k) ∧ Below w.heap.size w w' := by
  have HQ := Lib.hid (SQ.new rd A l c o0 o1 o2 w)
  have HR := Lib.hid hr
  clear hr
  have HK := Lib.hid hk
  have HS := Lib.hid hs
  clear hk hs
  go_enter Tryd.func26, Tryd.ntmps26
  go_wp2_with fail
  generalize w.alloc (.cells #[.int .i64 rd, .slice A l.length c, .bool o0, .bool o1, .bool o2] 25) = w0 at *
  go_loopw [5] (fun ii wr => ∃ i : Nat, i ≤ l.length ∧ ii = .int .i64 i ∧ NotIn l s i ∧ SQ rd A l c o0 o1 o2 w wr) (fun ii _ => l.length - (intOf ii).toNat)
  case atStart => exact ⟨0, by omega, rfl, fun _ _ h => by omega, HQ.out⟩
  case round =>
    clear HQ
    obtain ⟨i, hi, rfl, hno, hq⟩ := hrel
    have HNI := Lib.hid hno
    have HQ := Lib.hid hq
    clear hno hq
    have cs := HQ.out.sb.cell
    by_cases hlt : i < l.length
    · obtain ⟨b, off, hA, _⟩ := HR.out.en hlt
      obtain rfl : A = some ⟨b, off, none⟩ := hA
      have dk : decide ((i : Int) < (l.length : Int)) = true := decide_eq_true (by omega)
      have dk2 : (i : Int) < (l.length : Int) := by omega
      have HXI := Lib.hid (List.getElem?_eq_getElem hlt)
      have HYes := Lib.hid (show (l[i].pod.id.toList == s.toList) = true → k = (i : Int) from fun h => by
        have e := toList_inj h
        subst e
        rw [← HK.out]; unfold findR; rw [if_pos (isAt_at HS.out hlt), lower_at HS.out hlt])
      have HNo := Lib.hid (show (l[i].pod.id.toList == s.toList) = false → NotIn l s (i + 1) from fun h => HNI.out.snoc hlt h)
      generalize l[i] = x at *
      obtain ⟨c0, _⟩ := HR.out.enAt HQ.out.bel HXI.out
      cases he : (x.pod.id.toList == s.toList)
      · have HN := Lib.hid (HNo.out he)
        go_wp2_with fail
        go_roundw
        case rel => exact ⟨i + 1, by omega, by go_num, HN.out, HQ.out⟩
        case measure => simp [intOf]; omega
      · obtain rfl := HYes.out he
        go_wp2_with fail
        go_ret
        exact ⟨rfl, HQ.out.bel⟩
    · obtain rfl : i = l.length := by omega
      have dk : decide ((l.length : Int) < (l.length : Int)) = false := by simp
      obtain rfl : -1 = k := by rw [← HK.out]; unfold findR; rw [isAt_no HNI.out]; rfl
      clear HK
      go_wp2_with fail
      go_ret
      exact ⟨rfl, HQ.out.bel⟩

/-! ### Without -/
def dropS (l : List En) (s : ByteArray) : List En := l.filter fun x => !(x.pod.id.toList == s.toList)
theorem dropS_next (l : List En) (s : ByteArray) (i : Nat) (hi : i < l.length) : dropS (l.take (i + 1)) s = if (l[i].pod.id.toList == s.toList) = true then dropS (l.take i) s else dropS (l.take i) s ++ [l[i]] := by
  unfold dropS
  rw [List.take_succ_eq_append_getElem hi, List.filter_append]
  cases h : (l[i].pod.id.toList == s.toList) <;> simp [h]
theorem dropS_all {l : List En} {s : ByteArray} (h : ∀ x ∈ l, x.pod.id ≠ s) : dropS l s = l := List.filter_eq_self.2 fun x hx => by
  cases e : (x.pod.id.toList == s.toList)
  · rfl
  · exact absurd (toList_inj e) (h x hx)
theorem dropS_sorted {l : List En} {s : ByteArray} (hs : SortedN l) : dropS l s = withoutS l s := by
  unfold withoutS
  cases hat : isAt l s
  · rw [if_neg (by simp)]
    refine dropS_all fun x hx e => ?_
    obtain ⟨i, hi, rfl⟩ := List.getElem_of_mem hx
    subst e
    rw [isAt_at hs hi] at hat; cases hat
  · rw [if_pos rfl]
    obtain ⟨hi, he⟩ := isAt_lt hat
    generalize lowerI l s = i at *
    subst he
    unfold delI
    have e : l = l.take i ++ l[i] :: l.drop (i + 1) := by rw [← List.drop_eq_getElem_cons hi, List.take_append_drop]
    have h1 : dropS (l.take i) l[i].pod.id = l.take i := dropS_all fun x hx e2 => by
      obtain ⟨j, hj, rfl⟩ := List.mem_take_iff_getElem.1 hx
      have := hs j i (by omega) hi
      rw [e2, blt_irrefl] at this; cases this
    have h2 : dropS (l.drop (i + 1)) l[i].pod.id = l.drop (i + 1) := dropS_all fun x hx e2 => by
      obtain ⟨j, hj, rfl⟩ := List.mem_drop_iff_getElem.1 hx
      have := hs i (i + 1 + j) (by omega) (by omega)
      rw [e2, blt_irrefl] at this; cases this
    have h3 : dropS l l[i].pod.id = dropS (l.take i) l[i].pod.id ++ dropS (l[i] :: l.drop (i + 1)) l[i].pod.id := by
      conv => lhs; arg 1; rw [e]
      unfold dropS; rw [List.filter_append]
    rw [h3, h1]
    congr 1
    show List.filter _ _ = _
    rw [List.filter_cons_of_neg (by simp)]
    exact h2
set_option maxRecDepth 100000 in
set_option maxHeartbeats 8000000 in
theorem without24_any (rd : Int) (l : List En) (s : ByteArray) (A : Option Addr) (c : Nat) (o0 o1 o2 : Bool) (w : World) (hr : Rds w encN A l) (hm : l.length ≤ 100000) :
    Calls Tryd.prog 28 #[.agg #[.int .i64 rd, .slice A l.length c, .bool o0, .bool o1, .bool o2], .string s] w (GivesSt rd o0 o1 o2 (dropS l s) w) := by
  have HQ := Lib.hid (UQ.new rd A l.length c o0 o1 o2 w)
  have HR := Lib.hid hr
  clear hr
  go_enter Tryd.func28, Tryd.ntmps28
  go_wp2_with fail
  obtain ⟨W0, hW0⟩ : ∃ W0, ((w.alloc (.cells #[.int .i64 rd, .slice A l.length c, .bool o0, .bool o1, .bool o2] 25)).alloc (.cells #[.int .i64 0, .slice none 0 0, .bool false, .bool false, .bool false] 25)) = W0 := ⟨_, rfl⟩
  rw [hW0] at HQ ⊢
  clear hW0
  have HLT := Lib.hid HQ.out.rb.lt
  have HR0 := Lib.hid (HR.out.below HQ.out.bel)
  go_loopw [5, 6] (fun st ii wr => ∃ (i : Nat) (S : List En) (A1 : Option Addr) (c1 : Nat), i ≤ l.length ∧ ii = .int .i64 i ∧ st = .slice A1 S.length c1 ∧ S = dropS (l.take i) s ∧ Own wr W0.heap.size 46 encN (.slice A1 S.length c1) S ∧ Below W0.heap.size W0 wr) (fun _ ii _ => l.length - (intOf ii).toNat)
  case atStart => exact ⟨0, [], none, 0, by omega, rfl, rfl, rfl, Own.nil_ _ _ _ _, Below.refl _ _⟩
  case round =>
    obtain ⟨i, S, A1, c1, hi, rfl, rfl, hS, ho, hbl⟩ := hrel
    have hSl : S.length ≤ l.length := by rw [hS]; exact Nat.le_trans (List.length_filter_le _ _) (by simp; omega)
    have HS := Lib.hid hS
    have HP := Lib.hid (And.intro ho hbl)
    have HQr := Lib.hid (HQ.out.below hbl)
    clear hS ho hbl
    have cs := HQr.out.sb.cell
    by_cases hlt : i < l.length
    · obtain ⟨b, off, hA, _⟩ := HR.out.en hlt
      obtain rfl : A = some ⟨b, off, none⟩ := hA
      have dk : decide ((i : Int) < (l.length : Int)) = true := decide_eq_true (by omega)
      have dk2 : (i : Int) < (l.length : Int) := by omega
      have HXI := Lib.hid (List.getElem?_eq_getElem hlt)
      have HNX := Lib.hid (dropS_next l s i hlt)
      generalize l[i] = x at *
      obtain ⟨x0, x1, x2, x3, x4, x5, x6, x7, x8, x9, x10, x11⟩ := HR0.out.enAt HP.out.2 HXI.out
      cases he : (x.pod.id.toList == s.toList)
      · have hne : (x.pod.id.toList != s.toList) = true := by simp [bne, he]
        have HN := Lib.hid (show S ++ [x] = dropS (l.take (i + 1)) s by rw [HNX.out, he, HS.out]; rfl)
        clear HS
        go_wp2_with (at_builtin; refine wl_push elemN encN rfl (.tmp 23) (.tmp 29) rfl x #[.string x.pod.id, .int .i64 x.pod.prio, .bool x.pod.crit, .int .i64 x.pod.q0, .int .i64 x.pod.q1, .int .i64 x.pod.q2, .int .i64 x.pod.l0, .int .i64 x.pod.l1, .int .i64 x.pod.l2, .string x.pod.image, .int .i64 x.pod.size, .int .i64 x.phase] rfl W0.heap.size _ S rfl HP.out.1 rfl rfl HP.out.2 (by omega) (by omega) HP.out.2.size ?_; intro A3 k3 w4 ho hb _; have HX3 := Lib.hid (And.intro ho hb); clear ho hb)
        go_roundw
        case rel => exact ⟨i + 1, S ++ [x], A3, k3, by omega, by go_num, by rw [List.length_append]; rfl, HN.out, own_len1 HX3.out.1, HX3.out.2⟩
        case measure => simp [intOf]; omega
      · have hne : (x.pod.id.toList != s.toList) = false := by simp [bne, he]
        have HN := Lib.hid (show S = dropS (l.take (i + 1)) s by rw [HNX.out, he, HS.out]; rfl)
        clear HS
        go_wp2_with fail
        go_roundw
        case rel => exact ⟨i + 1, S, A1, c1, by omega, by go_num, rfl, HN.out, HP.out.1, HP.out.2⟩
        case measure => simp [intOf]; omega
    · obtain rfl : i = l.length := by omega
      have dk : decide ((l.length : Int) < (l.length : Int)) = false := by simp
      have HSE := Lib.hid (show S = dropS l s by have h := HS.out; rwa [List.take_length] at h)
      have HQ := HQr
      obtain ⟨v4, hv4, hq4, ho4, hz4⟩ := HQ.out.podsEx (A2 := A1) (n2 := S.length) (c2 := c1) HP.out.1 HLT.out
      have fs := HQ.out.sb.frozen
      have HQ4 := Lib.hid hq4
      have HO4 := Lib.hid ho4
      have cs4 := HQ4.out.sb.cell
      clear hq4 ho4 hz4 HP HS
      have HQ := HQ4
      go_wp2_with (refine wl_store_blk rfl 25 (.tmp 4) (.tmp 33) rfl (w.heap.size + 1) 25 #[.int .i64 0, .slice none 0 0, .bool false, .bool false, .bool false] #[.int .i64 rd, .slice A1 S.length c1, .bool o0, .bool o1, .bool o2] rfl rfl HQ.out.rb rfl infoS (by simp [Value.oneCell']) ?_; intro w5 hR5 hg5 hs5)
      have hl5 := hR5.cell
      have HB5 : Below w.heap.size w w5 := HQ.out.bel.grown hg5 HQ.out.bel.size (by intro k hk; cases hk; omega)
      exact bodyPost_ret (v := .agg #[.int .i64 rd, .slice A1 S.length c1, .bool o0, .bool o1, .bool o2]) (by simp [results, Tryd.results28, go_sem, hl5]) rfl ⟨A1, c1, by rw [← HSE.out], by rw [← HSE.out]; exact (HO4.out.grown hg5 (.inr fun e' => by have := (HO4.out.block_lt _ e').1; have := HLT.out; omega)).mono (by have := HLT.out; omega), HB5⟩

/-! ### With -/
def insE : List En → En → List En
  | [], u => [u]
  | x :: l, u => if blt u.pod.id x.pod.id = true then u :: x :: l else x :: insE l u
theorem insE_len (l : List En) (u : En) : (insE l u).length = l.length + 1 := by
  induction l with
  | nil => rfl
  | cons x l ih => unfold insE; split <;> simp [ih]
def insSt (m : List En) (u : En) (q : List En) (j : Nat) : Bool → Prop
  | true => insE m u = q ++ m.drop j
  | false => insE m u = q ++ insE (m.drop j) u
theorem insSt.start (m : List En) (u : En) : insSt m u [] 0 false := rfl
theorem insSt.yes {m : List En} {u : En} {q : List En} {j : Nat} (hj : j < m.length) (h : insSt m u q j false) (hb : blt u.pod.id m[j].pod.id = true) : insSt m u (q ++ [u] ++ [m[j]]) (j + 1) true := by
  show _ = _
  rw [show insE m u = q ++ insE (m.drop j) u from h, List.drop_eq_getElem_cons hj, insE, if_pos hb]; simp
theorem insSt.no {m : List En} {u : En} {q : List En} {j : Nat} (hj : j < m.length) (h : insSt m u q j false) (hb : blt u.pod.id m[j].pod.id = false) : insSt m u (q ++ [m[j]]) (j + 1) false := by
  show _ = _
  rw [show insE m u = q ++ insE (m.drop j) u from h, List.drop_eq_getElem_cons hj, insE, if_neg (by rw [hb]; simp)]; simp
theorem insSt.done {m : List En} {u : En} {q : List En} {j : Nat} (hj : j < m.length) (h : insSt m u q j true) : insSt m u (q ++ [m[j]]) (j + 1) true := by
  show _ = _
  rw [show insE m u = q ++ m.drop j from h, List.drop_eq_getElem_cons hj]; simp
theorem insSt.endT {m : List En} {u : En} {q : List En} (h : insSt m u q m.length true) : q = insE m u := by
  rw [show insE m u = q ++ m.drop m.length from h]; simp
theorem insSt.endF {m : List En} {u : En} {q : List En} (h : insSt m u q m.length false) : q ++ [u] = insE m u := by
  rw [show insE m u = q ++ insE (m.drop m.length) u from h]; simp [insE]
theorem insSt.len {m : List En} {u : En} {q : List En} {j : Nat} {d : Bool} (h : insSt m u q j d) : q.length ≤ m.length + 1 := by
  cases d
  · have := congrArg List.length (show insE m u = q ++ insE (m.drop j) u from h); rw [insE_len, List.length_append] at this; omega
  · have := congrArg List.length (show insE m u = q ++ m.drop j from h); rw [insE_len, List.length_append] at this; omega
/-- a > b, as the walk spells it -/
theorem gtS (a b : ByteArray) : (!Op.bytesLess a.toList b.toList && !a.toList == b.toList) = blt b a := by
  have h : Op.bytesLess a.toList b.toList = blt a b := rfl
  rw [h]
  cases h1 : blt a b
  · cases h2 : (a.toList == b.toList)
    · cases h3 : blt b a
      · rw [blt_total h1 h3] at h2; simp at h2
      · rfl
    · rw [toList_inj h2, blt_irrefl]; rfl
  · cases h3 : blt b a
    · rfl
    · have := blt_trans h1 h3; rw [blt_irrefl] at this; cases this
theorem insE_at {l : List En} {u : En} (hs : SortedN l) (hn : ∀ x ∈ l, x.pod.id ≠ u.pod.id) : insE l u = insI l (lowerI l u.pod.id) u := by
  induction l with
  | nil => rfl
  | cons x l ih =>
    have hs2 : SortedN l := fun i j hij hj => by have := hs (i + 1) (j + 1) (by omega) (by simpa using hj); simpa using this
    unfold insE
    cases hb : blt u.pod.id x.pod.id
    · have hxu : blt x.pod.id u.pod.id = true := by
        cases h2 : blt x.pod.id u.pod.id
        · exact absurd (blt_total h2 hb) (hn x (by simp))
        · rfl
      rw [if_neg (by simp), ih hs2 fun y hy => hn y (by simp [hy])]
      have : lowerI (x :: l) u.pod.id = lowerI l u.pod.id + 1 := by unfold lowerI; exact List.countP_cons_of_pos (p := fun z : En => blt z.pod.id u.pod.id) hxu
      rw [this]
      unfold insI
      simp
    · rw [if_pos rfl]
      have : lowerI (x :: l) u.pod.id = 0 := by
        unfold lowerI
        rw [List.countP_eq_zero]
        intro y hy
        rcases List.mem_cons.1 hy with rfl | hy
        · cases h2 : blt y.pod.id u.pod.id
          · simp
          · have := blt_trans hb h2; rw [blt_irrefl] at this; cases this
        · obtain ⟨t, ht, rfl⟩ := List.getElem_of_mem hy
          have h3 := hs 0 (t + 1) (by omega) (by simpa using ht)
          simp only [List.getElem_cons_zero, List.getElem_cons_succ] at h3
          cases h2 : blt l[t].pod.id u.pod.id
          · simp
          · have := blt_trans (blt_trans hb h3) h2; rw [blt_irrefl] at this; cases this
      rw [this]
      rfl
theorem delI_get {l : List En} {i t : Nat} (hi : i < l.length) (ht : t < (delI l i).length) : ∃ t', ∃ h : t' < l.length, (delI l i)[t] = l[t'] ∧ t' = if t < i then t else t + 1 := by
  have hl := delI_len l i hi
  have key : (delI l i)[t]? = l[if t < i then t else t + 1]? := by
    unfold delI
    rw [List.getElem?_append, List.length_take, Nat.min_eq_left (by omega)]
    split
    · rw [List.getElem?_take, if_pos (by assumption)]
    · rw [List.getElem?_drop]; congr 1; omega
  have hb : (if t < i then t else t + 1) < l.length := by split <;> omega
  refine ⟨_, hb, ?_, rfl⟩
  rw [List.getElem?_eq_getElem ht, List.getElem?_eq_getElem hb] at key
  exact Option.some.inj key
theorem delI_sorted {l : List En} (hs : SortedN l) {i : Nat} (hi : i < l.length) : SortedN (delI l i) := fun a b hab hb => by
  obtain ⟨a', ha', ea, ha2⟩ := delI_get hi (by omega : a < (delI l i).length)
  obtain ⟨b', hb', eb, hb2⟩ := delI_get hi hb
  rw [ea, eb]
  exact hs a' b' (by split at ha2 <;> split at hb2 <;> omega) hb'
theorem withoutS_sorted {l : List En} (hs : SortedN l) (s : ByteArray) : SortedN (withoutS l s) := by
  unfold withoutS
  split
  · rename_i h
    exact delI_sorted hs (isAt_lt h).1
  · exact hs
theorem withoutS_no {l : List En} (hs : SortedN l) (s : ByteArray) : ∀ x ∈ withoutS l s, x.pod.id ≠ s := fun x hx e => by
  rw [← dropS_sorted hs] at hx
  have := (List.mem_filter.1 hx).2
  rw [e] at this; simp at this
theorem insI_del {l : List En} {i : Nat} (hi : i < l.length) (e : En) : insI (delI l i) i e = l.set i e := by
  unfold insI delI
  rw [List.set_eq_take_append_cons_drop, if_pos hi]
  have h1 : (l.take i).length = i := by rw [List.length_take]; omega
  rw [List.take_append_of_le_length (by omega), List.drop_append_of_le_length (by omega), List.take_take, Nat.min_self, List.drop_eq_nil_of_le (by omega)]
  rfl
/-- putting in, by definition and by place -/
theorem insE_with {l : List En} (hs : SortedN l) (e : En) : insE (dropS l e.pod.id) e = withD l e := by
  rw [dropS_sorted hs, insE_at (withoutS_sorted hs _) (withoutS_no hs _)]
  unfold withoutS withD
  cases hat : isAt l e.pod.id
  · rfl
  · rw [if_pos rfl, if_pos rfl]
    obtain ⟨hi, he⟩ := isAt_lt hat
    have hl : lowerI (delI l (lowerI l e.pod.id)) e.pod.id = lowerI l e.pod.id := by
      have hlen := delI_len l (lowerI l e.pod.id) hi
      generalize lowerI l e.pod.id = i at *
      refine countP_bound _ _ i (by omega) (fun t ht h => ?_) (fun t ht h => ?_)
      · obtain ⟨t', ht', et, h2⟩ := delI_get hi ht
        rw [et, ← he]
        exact hs t' i (by rw [if_pos h] at h2; omega) hi
      · obtain ⟨t', ht', et, h2⟩ := delI_get hi ht
        rw [if_neg (by omega)] at h2
        rw [et]
        cases h3 : blt l[t'].pod.id e.pod.id
        · rfl
        · have h4 := hs i t' (by omega) ht'
          rw [he] at h4
          have := blt_trans h4 h3
          rw [blt_irrefl] at this; cases this
    rw [hl, insI_del hi]
set_option maxRecDepth 100000 in
set_option maxHeartbeats 16000000 in
theorem with24_any (rd : Int) (l : List En) (e : En) (A : Option Addr) (c : Nat) (o0 o1 o2 : Bool) (w : World) (hr : Rds w encN A l) (hm : l.length ≤ 100000) :
    Calls Tryd.prog 27 #[.agg #[.int .i64 rd, .slice A l.length c, .bool o0, .bool o1, .bool o2], .agg #[.string e.pod.id, .int .i64 e.pod.prio, .bool e.pod.crit, .int .i64 e.pod.q0, .int .i64 e.pod.q1, .int .i64 e.pod.q2, .int .i64 e.pod.l0, .int .i64 e.pod.l1, .int .i64 e.pod.l2, .string e.pod.image, .int .i64 e.pod.size, .int .i64 e.phase]] w (GivesSt rd o0 o1 o2 (insE (dropS l e.pod.id) e) w) := by
  have mixed : Tryd.prog.follows Departure.mixedOrders = true := by kernel_rfl
  have HQ := Lib.hid (WQ.new rd A l.length c o0 o1 o2 e w)
  have HR := Lib.hid hr
  clear hr
  have hMl : (dropS l e.pod.id).length ≤ l.length := List.length_filter_le _ _
  go_enter Tryd.func27, Tryd.ntmps27
  have cs := HQ.out.sb.cell
  have ce := HQ.out.eb.cell
  go_wp2_with fail
  refine (without24_any rd l e.pod.id A c o0 o1 o2 _ (HR.out.below HQ.out.bel) hm).mono ?_; rintro x W0 ⟨A2, c2, rfl, hO, hb⟩
  have HQ := Lib.hid (HQ.out.below hb)
  have HM0 := Lib.hid hO.toRds
  clear hb cs ce hO
  generalize dropS l e.pod.id = M at *
  have HLT := Lib.hid HQ.out.rb.lt
  have HQ0 := HQ
  go_wp2_with fail
  go_loopw [6, 7, 8] (fun st dn ii wr => ∃ (j : Nat) (q : List En) (d : Bool) (A1 : Option Addr) (c1 : Nat), j ≤ M.length ∧ ii = .int .i64 j ∧ dn = .bool d ∧ st = .slice A1 q.length c1 ∧ insSt M e q j d ∧ Own wr W0.heap.size 46 encN (.slice A1 q.length c1) q ∧ Below W0.heap.size W0 wr) (fun _ _ ii _ => M.length - (intOf ii).toNat)
  case atStart => exact ⟨0, [], false, none, 0, by omega, rfl, rfl, rfl, insSt.start M e, Own.nil_ _ _ _ _, Below.refl _ _⟩
  case round =>
    obtain ⟨j, q, d, A1, c1, hi, rfl, rfl, rfl, hst, ho, hbl⟩ := hrel
    have hql : q.length ≤ M.length + 1 := hst.len
    have HST := Lib.hid hst
    have HP := Lib.hid (And.intro ho hbl)
    have HQr := Lib.hid (HQ.out.below hbl)
    have HM := Lib.hid (HM0.out.below hbl)
    clear hst ho hbl
    by_cases hjm : j < M.length
    · obtain ⟨b2, off2, hA, _⟩ := HM.out.en hjm
      obtain rfl : A2 = some ⟨b2, off2, none⟩ := hA
      have dk : decide ((j : Int) < (M.length : Int)) = true := decide_eq_true (by omega)
      have dk2 : (j : Int) < (M.length : Int) := by omega
      have HYJ := Lib.hid (List.getElem?_eq_getElem hjm)
      have HYes := Lib.hid (insSt.yes (u := e) (q := q) hjm)
      have HNo := Lib.hid (insSt.no (u := e) (q := q) hjm)
      have HDone := Lib.hid (insSt.done (u := e) (q := q) hjm)
      generalize M[j] = y at *
      cases d
      · cases hb : blt e.pod.id y.pod.id
        · have HBB := Lib.hid ((gtS y.pod.id e.pod.id).trans hb)
          have HN := Lib.hid (HNo.out HST.out hb)
          clear HST HYes HNo HDone hb
          go_wp2_with fail
          have HP := Lib.hid (And.intro HP.out.1.drew HP.out.2.drew)
          have HM := Lib.hid HM.out.drew
          have HQr := Lib.hid HQr.out.drew
          refine wp_region_held_drew (S := (fun w' => w'.cell? ⟨b2, off2 + j * 12, none⟩ = some (.string y.pod.id) ∧ w'.cell? ⟨w.heap.size + 1, 0, none⟩ = some (.string e.pod.id))) (by kernel_rfl) (⟨(HM.out.enAt (Below.refl _ _) HYJ.out).1, HQr.out.eb.cell 0⟩) (fun hHeld => ?_)
          refine held_take 0 21 (.bool false) rfl rfl (by kernel_rfl) (by kernel_rfl) (by kernel_rfl) (fun _ _ _ h => h) (by rfl) (by intro w' hSw; (try dsimp only at hSw); go_simp; (try (with_reducible rfl))) (by assumption) ?_
          simp only [Act.put, List.setIfInBounds_toArray, List.set_cons_zero, List.set_cons_succ]
          refine held_take 1 22 (.bool true) rfl rfl (by kernel_rfl) (by kernel_rfl) (by kernel_rfl) (fun _ _ _ h => h) (by rfl) (by intro w' hSw; (try dsimp only at hSw); go_simp; (try (with_reducible rfl))) (by assumption) ?_
          simp only [Act.put, List.setIfInBounds_toArray, List.set_cons_zero, List.set_cons_succ]
          refine held_take 2 23 (.bool true) rfl rfl (by kernel_rfl) (by kernel_rfl) (by kernel_rfl) (fun _ _ _ h => h) (by rfl) (by intro w' hSw; (try dsimp only at hSw); go_simp; (try (with_reducible rfl))) (by assumption) ?_
          simp only [Act.put, List.setIfInBounds_toArray, List.set_cons_zero, List.set_cons_succ]
          refine held_take 3 24 (.slice (some ⟨b2, off2, none⟩) M.length c2) rfl rfl (by kernel_rfl) (by kernel_rfl) (by kernel_rfl) (fun _ _ _ h => h) (by rfl) (by intro w' hSw; (try dsimp only at hSw); go_simp; (try (with_reducible rfl))) (by assumption) ?_
          simp only [Act.put, List.setIfInBounds_toArray, List.set_cons_zero, List.set_cons_succ]
          refine held_take 4 25 (.int .i64 j) rfl rfl (by kernel_rfl) (by kernel_rfl) (by kernel_rfl) (fun _ _ _ h => h) (by rfl) (by intro w' hSw; (try dsimp only at hSw); go_simp; (try (with_reducible rfl))) (by assumption) ?_
          simp only [Act.put, List.setIfInBounds_toArray, List.set_cons_zero, List.set_cons_succ]
          refine held_take 5 26 (.pointer (some ⟨b2, off2 + j * 12, none⟩)) rfl rfl (by kernel_rfl) (by kernel_rfl) (by kernel_rfl) (fun _ _ _ h => h) (by rfl) (by intro w' hSw; (try dsimp only at hSw); go_simp; (try (with_reducible rfl))) (by assumption) ?_
          simp only [Act.put, List.setIfInBounds_toArray, List.set_cons_zero, List.set_cons_succ]
          refine held_take 6 27 (.pointer (some ⟨b2, off2 + j * 12, none⟩)) rfl rfl (by kernel_rfl) (by kernel_rfl) (by kernel_rfl) (fun _ _ _ h => h) (by rfl) (by intro w' hSw; (try dsimp only at hSw); go_simp; (try (with_reducible rfl))) (by assumption) ?_
          simp only [Act.put, List.setIfInBounds_toArray, List.set_cons_zero, List.set_cons_succ]
          refine held_take 7 28 (.pointer (some ⟨b2, off2 + j * 12, none⟩)) rfl rfl (by kernel_rfl) (by kernel_rfl) (by kernel_rfl) (fun _ _ _ h => h) (by rfl) (by intro w' hSw; (try dsimp only at hSw); go_simp; (try (with_reducible rfl))) (by assumption) ?_
          simp only [Act.put, List.setIfInBounds_toArray, List.set_cons_zero, List.set_cons_succ]
          refine held_take 8 29 (.string y.pod.id) rfl rfl (by kernel_rfl) (by kernel_rfl) (by kernel_rfl) (fun _ _ _ h => h) (by rfl) (by intro w' hSw; (try dsimp only at hSw); go_simp; (try (with_reducible rfl))) (by assumption) ?_
          simp only [Act.put, List.setIfInBounds_toArray, List.set_cons_zero, List.set_cons_succ]
          refine held_take 9 30 (.pointer (some ⟨w.heap.size + 1, 0, none⟩)) rfl rfl (by kernel_rfl) (by kernel_rfl) (by kernel_rfl) (fun _ _ _ h => h) (by rfl) (by intro w' hSw; (try dsimp only at hSw); go_simp; (try (with_reducible rfl))) (by assumption) ?_
          simp only [Act.put, List.setIfInBounds_toArray, List.set_cons_zero, List.set_cons_succ]
          refine held_take 10 31 (.pointer (some ⟨w.heap.size + 1, 0, none⟩)) rfl rfl (by kernel_rfl) (by kernel_rfl) (by kernel_rfl) (fun _ _ _ h => h) (by rfl) (by intro w' hSw; (try dsimp only at hSw); go_simp; (try (with_reducible rfl))) (by assumption) ?_
          simp only [Act.put, List.setIfInBounds_toArray, List.set_cons_zero, List.set_cons_succ]
          refine held_take 11 32 (.string e.pod.id) rfl rfl (by kernel_rfl) (by kernel_rfl) (by kernel_rfl) (fun _ _ _ h => h) (by rfl) (by intro w' hSw; (try dsimp only at hSw); go_simp; (try (with_reducible rfl))) (by assumption) ?_
          simp only [Act.put, List.setIfInBounds_toArray, List.set_cons_zero, List.set_cons_succ]
          refine held_take 12 33 (.bool false) rfl rfl (by kernel_rfl) (by kernel_rfl) (by kernel_rfl) (fun _ _ _ h => h) (by rfl) (by intro w' hSw; (try dsimp only at hSw); go_simp; (first | done | with_reducible rfl | (have hh := HBB.out; simpa using hh))) (by assumption) ?_
          simp only [Act.put, List.setIfInBounds_toArray, List.set_cons_zero, List.set_cons_succ]
          refine held_take 13 34 (.bool false) rfl rfl (by kernel_rfl) (by kernel_rfl) (by kernel_rfl) (fun _ _ _ h => h) (by rfl) (by intro w' hSw; (try dsimp only at hSw); go_simp; (try (with_reducible rfl))) (by assumption) ?_
          simp only [Act.put, List.setIfInBounds_toArray, List.set_cons_zero, List.set_cons_succ]
          refine wpAnyH_done (by kernel_rfl) ?_ _
          clear hHeld
          obtain ⟨y0, y1, y2, y3, y4, y5, y6, y7, y8, y9, y10, y11⟩ := HM.out.enAt (Below.refl _ _) HYJ.out
          go_wp2_with (at_builtin; refine wl_push elemN encN rfl (.tmp 39) (.tmp 44) rfl y #[.string y.pod.id, .int .i64 y.pod.prio, .bool y.pod.crit, .int .i64 y.pod.q0, .int .i64 y.pod.q1, .int .i64 y.pod.q2, .int .i64 y.pod.l0, .int .i64 y.pod.l1, .int .i64 y.pod.l2, .string y.pod.image, .int .i64 y.pod.size, .int .i64 y.phase] rfl W0.heap.size _ q rfl HP.out.1 rfl rfl HP.out.2 (by first | omega | (simp; omega)) (by first | omega | (simp; omega)) HP.out.2.size ?_; intro A3 k3 w4 ho hb _; have HX3 := Lib.hid (And.intro ho hb); clear ho hb)
          go_roundw
          case rel => exact ⟨j + 1, q ++ [y], false, A3, k3, by omega, by go_num, rfl, by rw [List.length_append]; rfl, HN.out, own_len1 HX3.out.1, HX3.out.2⟩
          case measure => simp [intOf]; omega
        · have HBB := Lib.hid ((gtS y.pod.id e.pod.id).trans hb)
          have HN := Lib.hid (HYes.out HST.out hb)
          clear HST HYes HNo HDone hb
          go_wp2_with fail
          have HP := Lib.hid (And.intro HP.out.1.drew HP.out.2.drew)
          have HM := Lib.hid HM.out.drew
          have HQr := Lib.hid HQr.out.drew
          refine wp_region_held_drew (S := (fun w' => w'.cell? ⟨b2, off2 + j * 12, none⟩ = some (.string y.pod.id) ∧ w'.cell? ⟨w.heap.size + 1, 0, none⟩ = some (.string e.pod.id))) (by kernel_rfl) (⟨(HM.out.enAt (Below.refl _ _) HYJ.out).1, HQr.out.eb.cell 0⟩) (fun hHeld => ?_)
          refine held_take 0 21 (.bool false) rfl rfl (by kernel_rfl) (by kernel_rfl) (by kernel_rfl) (fun _ _ _ h => h) (by rfl) (by intro w' hSw; (try dsimp only at hSw); go_simp; (try (with_reducible rfl))) (by assumption) ?_
          simp only [Act.put, List.setIfInBounds_toArray, List.set_cons_zero, List.set_cons_succ]
          refine held_take 1 22 (.bool true) rfl rfl (by kernel_rfl) (by kernel_rfl) (by kernel_rfl) (fun _ _ _ h => h) (by rfl) (by intro w' hSw; (try dsimp only at hSw); go_simp; (try (with_reducible rfl))) (by assumption) ?_
          simp only [Act.put, List.setIfInBounds_toArray, List.set_cons_zero, List.set_cons_succ]
          refine held_take 2 23 (.bool true) rfl rfl (by kernel_rfl) (by kernel_rfl) (by kernel_rfl) (fun _ _ _ h => h) (by rfl) (by intro w' hSw; (try dsimp only at hSw); go_simp; (try (with_reducible rfl))) (by assumption) ?_
          simp only [Act.put, List.setIfInBounds_toArray, List.set_cons_zero, List.set_cons_succ]
          refine held_take 3 24 (.slice (some ⟨b2, off2, none⟩) M.length c2) rfl rfl (by kernel_rfl) (by kernel_rfl) (by kernel_rfl) (fun _ _ _ h => h) (by rfl) (by intro w' hSw; (try dsimp only at hSw); go_simp; (try (with_reducible rfl))) (by assumption) ?_
          simp only [Act.put, List.setIfInBounds_toArray, List.set_cons_zero, List.set_cons_succ]
          refine held_take 4 25 (.int .i64 j) rfl rfl (by kernel_rfl) (by kernel_rfl) (by kernel_rfl) (fun _ _ _ h => h) (by rfl) (by intro w' hSw; (try dsimp only at hSw); go_simp; (try (with_reducible rfl))) (by assumption) ?_
          simp only [Act.put, List.setIfInBounds_toArray, List.set_cons_zero, List.set_cons_succ]
          refine held_take 5 26 (.pointer (some ⟨b2, off2 + j * 12, none⟩)) rfl rfl (by kernel_rfl) (by kernel_rfl) (by kernel_rfl) (fun _ _ _ h => h) (by rfl) (by intro w' hSw; (try dsimp only at hSw); go_simp; (try (with_reducible rfl))) (by assumption) ?_
          simp only [Act.put, List.setIfInBounds_toArray, List.set_cons_zero, List.set_cons_succ]
          refine held_take 6 27 (.pointer (some ⟨b2, off2 + j * 12, none⟩)) rfl rfl (by kernel_rfl) (by kernel_rfl) (by kernel_rfl) (fun _ _ _ h => h) (by rfl) (by intro w' hSw; (try dsimp only at hSw); go_simp; (try (with_reducible rfl))) (by assumption) ?_
          simp only [Act.put, List.setIfInBounds_toArray, List.set_cons_zero, List.set_cons_succ]
          refine held_take 7 28 (.pointer (some ⟨b2, off2 + j * 12, none⟩)) rfl rfl (by kernel_rfl) (by kernel_rfl) (by kernel_rfl) (fun _ _ _ h => h) (by rfl) (by intro w' hSw; (try dsimp only at hSw); go_simp; (try (with_reducible rfl))) (by assumption) ?_
          simp only [Act.put, List.setIfInBounds_toArray, List.set_cons_zero, List.set_cons_succ]
          refine held_take 8 29 (.string y.pod.id) rfl rfl (by kernel_rfl) (by kernel_rfl) (by kernel_rfl) (fun _ _ _ h => h) (by rfl) (by intro w' hSw; (try dsimp only at hSw); go_simp; (try (with_reducible rfl))) (by assumption) ?_
          simp only [Act.put, List.setIfInBounds_toArray, List.set_cons_zero, List.set_cons_succ]
          refine held_take 9 30 (.pointer (some ⟨w.heap.size + 1, 0, none⟩)) rfl rfl (by kernel_rfl) (by kernel_rfl) (by kernel_rfl) (fun _ _ _ h => h) (by rfl) (by intro w' hSw; (try dsimp only at hSw); go_simp; (try (with_reducible rfl))) (by assumption) ?_
          simp only [Act.put, List.setIfInBounds_toArray, List.set_cons_zero, List.set_cons_succ]
          refine held_take 10 31 (.pointer (some ⟨w.heap.size + 1, 0, none⟩)) rfl rfl (by kernel_rfl) (by kernel_rfl) (by kernel_rfl) (fun _ _ _ h => h) (by rfl) (by intro w' hSw; (try dsimp only at hSw); go_simp; (try (with_reducible rfl))) (by assumption) ?_
          simp only [Act.put, List.setIfInBounds_toArray, List.set_cons_zero, List.set_cons_succ]
          refine held_take 11 32 (.string e.pod.id) rfl rfl (by kernel_rfl) (by kernel_rfl) (by kernel_rfl) (fun _ _ _ h => h) (by rfl) (by intro w' hSw; (try dsimp only at hSw); go_simp; (try (with_reducible rfl))) (by assumption) ?_
          simp only [Act.put, List.setIfInBounds_toArray, List.set_cons_zero, List.set_cons_succ]
          refine held_take 12 33 (.bool true) rfl rfl (by kernel_rfl) (by kernel_rfl) (by kernel_rfl) (fun _ _ _ h => h) (by rfl) (by intro w' hSw; (try dsimp only at hSw); go_simp; (first | done | with_reducible rfl | (have hh := HBB.out; simpa using hh))) (by assumption) ?_
          simp only [Act.put, List.setIfInBounds_toArray, List.set_cons_zero, List.set_cons_succ]
          refine held_take 13 34 (.bool true) rfl rfl (by kernel_rfl) (by kernel_rfl) (by kernel_rfl) (fun _ _ _ h => h) (by rfl) (by intro w' hSw; (try dsimp only at hSw); go_simp; (try (with_reducible rfl))) (by assumption) ?_
          simp only [Act.put, List.setIfInBounds_toArray, List.set_cons_zero, List.set_cons_succ]
          refine wpAnyH_done (by kernel_rfl) ?_ _
          clear hHeld
          have ce := HQr.out.eb.cell
          go_wp2_with (first | (at_builtin; refine wl_push elemN encN rfl (.tmp 35) (.tmp 37) rfl e #[.string e.pod.id, .int .i64 e.pod.prio, .bool e.pod.crit, .int .i64 e.pod.q0, .int .i64 e.pod.q1, .int .i64 e.pod.q2, .int .i64 e.pod.l0, .int .i64 e.pod.l1, .int .i64 e.pod.l2, .string e.pod.image, .int .i64 e.pod.size, .int .i64 e.phase] rfl W0.heap.size _ q rfl HP.out.1 rfl rfl HP.out.2 (by omega) (by omega) HP.out.2.size ?_; intro A3 k3 w4 ho hb _; have HX3 := Lib.hid (And.intro ho hb); have HM4 := Lib.hid (HM0.out.below hb); clear ho hb; obtain ⟨y0, y1, y2, y3, y4, y5, y6, y7, y8, y9, y10, y11⟩ := HM4.out.enAt (Below.refl _ _) HYJ.out) | (at_builtin; refine wl_push elemN encN rfl (.tmp 39) (.tmp 44) rfl y #[.string y.pod.id, .int .i64 y.pod.prio, .bool y.pod.crit, .int .i64 y.pod.q0, .int .i64 y.pod.q1, .int .i64 y.pod.q2, .int .i64 y.pod.l0, .int .i64 y.pod.l1, .int .i64 y.pod.l2, .string y.pod.image, .int .i64 y.pod.size, .int .i64 y.phase] rfl W0.heap.size _ (q ++ [e]) rfl HX3.out.1 rfl rfl HX3.out.2 (by simp; omega) (by simp; omega) HX3.out.2.size ?_; intro A4 k4 w5 ho hb _; have HX4 := Lib.hid (And.intro ho hb); clear ho hb))
          go_roundw
          case rel => exact ⟨j + 1, q ++ [e] ++ [y], true, A4, k4, by omega, by go_num, rfl, by simp, HN.out, by simpa using HX4.out.1, HX4.out.2⟩
          case measure => simp [intOf]; omega
      · have HN := Lib.hid (HDone.out HST.out)
        clear HST HYes HNo HDone
        go_wp2_with fail
        have HP := Lib.hid (And.intro HP.out.1.drew HP.out.2.drew)
        have HM := Lib.hid HM.out.drew
        have HQr := Lib.hid HQr.out.drew
        refine wp_region_held_drew (S := (fun w' => w'.cell? ⟨b2, off2 + j * 12, none⟩ = some (.string y.pod.id) ∧ w'.cell? ⟨w.heap.size + 1, 0, none⟩ = some (.string e.pod.id))) (by kernel_rfl) (⟨(HM.out.enAt (Below.refl _ _) HYJ.out).1, HQr.out.eb.cell 0⟩) (fun hHeld => ?_)
        refine held_take 0 21 (.bool true) rfl rfl (by kernel_rfl) (by kernel_rfl) (by kernel_rfl) (fun _ _ _ h => h) (by rfl) (by intro w' hSw; (try dsimp only at hSw); go_simp; (try (with_reducible rfl))) (by assumption) ?_
        simp only [Act.put, List.setIfInBounds_toArray, List.set_cons_zero, List.set_cons_succ]
        refine held_take 1 22 (.bool false) rfl rfl (by kernel_rfl) (by kernel_rfl) (by kernel_rfl) (fun _ _ _ h => h) (by rfl) (by intro w' hSw; (try dsimp only at hSw); go_simp; (try (with_reducible rfl))) (by assumption) ?_
        simp only [Act.put, List.setIfInBounds_toArray, List.set_cons_zero, List.set_cons_succ]
        refine held_take 2 23 (.bool false) rfl rfl (by kernel_rfl) (by kernel_rfl) (by kernel_rfl) (fun _ _ _ h => h) (by rfl) (by intro w' hSw; (try dsimp only at hSw); go_simp; (try (with_reducible rfl))) (by assumption) ?_
        simp only [Act.put, List.setIfInBounds_toArray, List.set_cons_zero, List.set_cons_succ]
        refine held_skip 3 24 rfl rfl (by kernel_rfl) (by kernel_rfl) (by kernel_rfl) (fun _ _ _ h => h) (by rfl) (by assumption) ?_
        simp only [Act.put, List.setIfInBounds_toArray, List.set_cons_zero, List.set_cons_succ]
        refine held_skip 4 25 rfl rfl (by kernel_rfl) (by kernel_rfl) (by kernel_rfl) (fun _ _ _ h => h) (by rfl) (by assumption) ?_
        simp only [Act.put, List.setIfInBounds_toArray, List.set_cons_zero, List.set_cons_succ]
        refine held_skip 5 26 rfl rfl (by kernel_rfl) (by kernel_rfl) (by kernel_rfl) (fun _ _ _ h => h) (by rfl) (by assumption) ?_
        simp only [Act.put, List.setIfInBounds_toArray, List.set_cons_zero, List.set_cons_succ]
        refine held_skip 6 27 rfl rfl (by kernel_rfl) (by kernel_rfl) (by kernel_rfl) (fun _ _ _ h => h) (by rfl) (by assumption) ?_
        simp only [Act.put, List.setIfInBounds_toArray, List.set_cons_zero, List.set_cons_succ]
        refine held_skip 7 28 rfl rfl (by kernel_rfl) (by kernel_rfl) (by kernel_rfl) (fun _ _ _ h => h) (by rfl) (by assumption) ?_
        simp only [Act.put, List.setIfInBounds_toArray, List.set_cons_zero, List.set_cons_succ]
        refine held_skip 8 29 rfl rfl (by kernel_rfl) (by kernel_rfl) (by kernel_rfl) (fun _ _ _ h => h) (by rfl) (by assumption) ?_
        simp only [Act.put, List.setIfInBounds_toArray, List.set_cons_zero, List.set_cons_succ]
        refine held_skip 9 30 rfl rfl (by kernel_rfl) (by kernel_rfl) (by kernel_rfl) (fun _ _ _ h => h) (by rfl) (by assumption) ?_
        simp only [Act.put, List.setIfInBounds_toArray, List.set_cons_zero, List.set_cons_succ]
        refine held_skip 10 31 rfl rfl (by kernel_rfl) (by kernel_rfl) (by kernel_rfl) (fun _ _ _ h => h) (by rfl) (by assumption) ?_
        simp only [Act.put, List.setIfInBounds_toArray, List.set_cons_zero, List.set_cons_succ]
        refine held_skip 11 32 rfl rfl (by kernel_rfl) (by kernel_rfl) (by kernel_rfl) (fun _ _ _ h => h) (by rfl) (by assumption) ?_
        simp only [Act.put, List.setIfInBounds_toArray, List.set_cons_zero, List.set_cons_succ]
        refine held_skip 12 33 rfl rfl (by kernel_rfl) (by kernel_rfl) (by kernel_rfl) (fun _ _ _ h => h) (by rfl) (by assumption) ?_
        simp only [Act.put, List.setIfInBounds_toArray, List.set_cons_zero, List.set_cons_succ]
        refine held_take 13 34 (.bool false) rfl rfl (by kernel_rfl) (by kernel_rfl) (by kernel_rfl) (fun _ _ _ h => h) (by rfl) (by intro w' hSw; (try dsimp only at hSw); go_simp; (try (with_reducible rfl))) (by assumption) ?_
        simp only [Act.put, List.setIfInBounds_toArray, List.set_cons_zero, List.set_cons_succ]
        refine wpAnyH_done (by kernel_rfl) ?_ _
        clear hHeld
        obtain ⟨y0, y1, y2, y3, y4, y5, y6, y7, y8, y9, y10, y11⟩ := HM.out.enAt (Below.refl _ _) HYJ.out
        go_wp2_with (at_builtin; refine wl_push elemN encN rfl (.tmp 39) (.tmp 44) rfl y #[.string y.pod.id, .int .i64 y.pod.prio, .bool y.pod.crit, .int .i64 y.pod.q0, .int .i64 y.pod.q1, .int .i64 y.pod.q2, .int .i64 y.pod.l0, .int .i64 y.pod.l1, .int .i64 y.pod.l2, .string y.pod.image, .int .i64 y.pod.size, .int .i64 y.phase] rfl W0.heap.size _ q rfl HP.out.1 rfl rfl HP.out.2 (by first | omega | (simp; omega)) (by first | omega | (simp; omega)) HP.out.2.size ?_; intro A3 k3 w4 ho hb _; have HX3 := Lib.hid (And.intro ho hb); clear ho hb)
        go_roundw
        case rel => exact ⟨j + 1, q ++ [y], true, A3, k3, by omega, by go_num, rfl, by rw [List.length_append]; rfl, HN.out, own_len1 HX3.out.1, HX3.out.2⟩
        case measure => simp [intOf]; omega
    · obtain rfl : j = M.length := by omega
      have dk : decide ((M.length : Int) < (M.length : Int)) = false := by simp
      have HQ := HQr
      cases d
      · have HE := Lib.hid HST.out.endF
        have ce := HQ.out.eb.cell
        go_wp2_with (first | (at_builtin; refine wl_push elemN encN rfl (.tmp 48) (.tmp 50) rfl e #[.string e.pod.id, .int .i64 e.pod.prio, .bool e.pod.crit, .int .i64 e.pod.q0, .int .i64 e.pod.q1, .int .i64 e.pod.q2, .int .i64 e.pod.l0, .int .i64 e.pod.l1, .int .i64 e.pod.l2, .string e.pod.image, .int .i64 e.pod.size, .int .i64 e.phase] rfl W0.heap.size _ q rfl HP.out.1 rfl rfl HP.out.2 (by omega) (by omega) HP.out.2.size ?_; intro A3 k3 w4 ho hb _; have HQ := Lib.hid (HQ0.out.below hb); clear ce hb; obtain ⟨v4, hv4, hq4, ho4, hz4⟩ := HQ.out.podsEx (A2 := A3) (n2 := q.length + 1) (c2 := k3) ho HLT.out; have cs := HQ.out.sb.cell; have fs := HQ.out.sb.frozen; have HQ := Lib.hid hq4; have HO4 := Lib.hid ho4; have cs4 := HQ.out.sb.cell; clear hq4 ho4 hz4 ho) | (refine wl_store_blk rfl 25 (.tmp 4) (.tmp 54) rfl (w.heap.size + 1 + 1) 25 #[.int .i64 0, .slice none 0 0, .bool false, .bool false, .bool false] #[.int .i64 rd, .slice A3 (q.length + 1) k3, .bool o0, .bool o1, .bool o2] rfl rfl HQ.out.rb rfl infoS (by simp [Value.oneCell']) ?_; intro w5 hR5 hg5 hs5))
        have hl5 := hR5.cell
        have HB5 : Below w.heap.size w w5 := HQ.out.bel.grown hg5 HQ.out.bel.size (by intro k hk; cases hk; omega)
        exact bodyPost_ret (v := .agg #[.int .i64 rd, .slice A3 (q.length + 1) k3, .bool o0, .bool o1, .bool o2]) (by simp [results, Tryd.results27, go_sem, hl5]) rfl ⟨A3, k3, by rw [← HE.out]; simp, by rw [← HE.out]; exact (by simpa using (HO4.out.grown hg5 (.inr fun e' => by have := (HO4.out.block_lt _ e').1; have := HLT.out; omega)).mono (by have := HLT.out; omega)), HB5⟩
      · have HE := Lib.hid HST.out.endT
        obtain ⟨v4, hv4, hq4, ho4, hz4⟩ := HQ.out.podsEx (A2 := A1) (n2 := q.length) (c2 := c1) HP.out.1 HLT.out
        have cs := HQ.out.sb.cell
        have fs := HQ.out.sb.frozen
        have HQ4 := Lib.hid hq4
        have HO4 := Lib.hid ho4
        have cs4 := HQ4.out.sb.cell
        clear hq4 ho4 hz4 HP HST
        have HQ := HQ4
        go_wp2_with (refine wl_store_blk rfl 25 (.tmp 4) (.tmp 54) rfl (w.heap.size + 1 + 1) 25 #[.int .i64 0, .slice none 0 0, .bool false, .bool false, .bool false] #[.int .i64 rd, .slice A1 q.length c1, .bool o0, .bool o1, .bool o2] rfl rfl HQ.out.rb rfl infoS (by simp [Value.oneCell']) ?_; intro w5 hR5 hg5 hs5)
        have hl5 := hR5.cell
        have HB5 : Below w.heap.size w w5 := HQ.out.bel.grown hg5 HQ.out.bel.size (by intro k hk; cases hk; omega)
        exact bodyPost_ret (v := .agg #[.int .i64 rd, .slice A1 q.length c1, .bool o0, .bool o1, .bool o2]) (by simp [results, Tryd.results27, go_sem, hl5]) rfl ⟨A1, c1, by rw [← HE.out], by rw [← HE.out]; exact (HO4.out.grown hg5 (.inr fun e' => by have := (HO4.out.block_lt _ e').1; have := HLT.out; omega)).mono (by have := HLT.out; omega), HB5⟩
end Go.Proofs.YtakgblgbfbpmoaaDoor
