/- Acts: few, after; what they are read as. -/
import Derived.Test.YtfaklhdafpbkmaaImgLaw
import Derived.Test.YtfaklhdafpbkmaaLawImageKeeps
import Derived.Outline
namespace Go.Proofs.Ytfaklhdafpbkmaa
open Go.RowKit

/-- an act, as data -/
structure Ac where
  act : Int
  name : ByteArray
  size : Int
  round : Int
  ua : Option Addr
  used : List ByteArray
  uc : Nat
abbrev Ac.cells (p : Ac) : Array Value := #[.int .i64 p.act, .string p.name, .int .i64 p.size, .int .i64 p.round, .slice p.ua p.used.length p.uc]
structure Ac.Wf (w : World) (p : Ac) : Prop where
  size : I64 p.size
  used : Rds w encS p.ua p.used
  len : p.used.length ≤ 9223372036854775807
def encA : Enc Ac 5 := ⟨fun p => p.cells.toList, fun _ => rfl, fun p u hu => by simp at hu; rcases hu with h | h | h | h | h <;> subst h <;> rfl, by decide⟩
theorem Rds.ac {w : World} {A : Option Addr} {l : List Ac} (h : Rds w encA A l) {i : Nat} (hi : i < l.length) : ∃ b off, A = some ⟨b, off, none⟩ ∧ b < w.heap.size ∧
    w.cell? ⟨b, off + i * 5, none⟩ = some (.int .i64 l[i].act) ∧ w.cell? ⟨b, off + i * 5 + 1, none⟩ = some (.string l[i].name) ∧ w.cell? ⟨b, off + i * 5 + 2, none⟩ = some (.int .i64 l[i].size) ∧ w.cell? ⟨b, off + i * 5 + 3, none⟩ = some (.int .i64 l[i].round) ∧ w.cell? ⟨b, off + i * 5 + 4, none⟩ = some (.slice l[i].ua l[i].used.length l[i].uc) := by
  obtain ⟨b, off, e, hb, hc⟩ := h.at_ hi
  exact ⟨b, off, e, hb, by have := hc 0 (.int .i64 l[i].act) rfl; simpa using this, hc 1 (.string l[i].name) rfl, hc 2 (.int .i64 l[i].size) rfl, hc 3 (.int .i64 l[i].round) rfl, hc 4 (.slice l[i].ua l[i].used.length l[i].uc) rfl⟩

def okA (x : Ac) : Bool := decide (x.name.size ≤ 60) && (namesB x.used && (decide (0 ≤ x.size) && decide (0 ≤ x.round)))
def fewA (l : List Ac) : Bool := (l.take 100).all okA && decide (l.length ≤ 50)
theorem fewA_no (l : List Ac) (k : Nat) (hk : k < l.length) (h2 : k < 100) (h : okA l[k] = false) : fewA l = false := by
  unfold fewA
  have : (l.take 100).all okA = false := by
    rw [List.all_eq_false]
    exact ⟨l[k], List.mem_take_iff_getElem.2 ⟨k, by omega, rfl⟩, by simp [h]⟩
  rw [this]; rfl
theorem fewA_yes (l : List Ac) (k : Nat) (hk : k ≤ l.length) (h2 : k ≤ 100) (he : ¬ (k < l.length ∧ k < 100)) (h : (l.take k).all okA = true) : fewA l = decide ((l.length : Int) ≤ 50) := by
  unfold fewA
  have e : l.take 100 = l.take k := by
    rcases Nat.lt_or_ge k 100 with h3 | h3
    · obtain rfl : k = l.length := by omega
      rw [List.take_of_length_le (by omega), List.take_of_length_le (Nat.le_refl _)]
    · obtain rfl : k = 100 := by omega
      rfl
  rw [e, h, Bool.true_and]
  congr 1
  apply propext
  omega
set_option maxHeartbeats 2000000 in
theorem fewA_any (l : List Ac) (A : Option Addr) (c : Nat) (w : World) (hr : Rds w encA A l) (hwf : ∀ x ∈ l, x.Wf w) (hm : l.length ≤ 9223372036854775807) :
    Calls Try.prog 36 #[.slice A l.length c] w fun e w' => e = .returned (.bool (fewA l)) ∧ Below w.heap.size w w' := by
  have HR := Lib.hid hr
  have HX := Lib.hid hwf
  clear hr hwf
  go_enter Try.func36, Try.ntmps36
  go_wp2_with fail
  go_loop [3] (fun i => ∃ k : Nat, k ≤ l.length ∧ k ≤ 100 ∧ i = .int .i64 k ∧ (l.take k).all okA = true) (fun i => l.length - (intOf i).toNat)
  case atStart => exact ⟨0, by omega, by omega, rfl, rfl⟩
  case round =>
    obtain ⟨k, hk, hk2, rfl, h0⟩ := hrel
    have H0 := Lib.hid h0
    clear h0
    by_cases hlt : k < l.length ∧ k < 100
    · obtain ⟨h1, h2⟩ := hlt
      obtain ⟨b, off, rfl, hb, c0, c1, c2, c3, c4⟩ := HR.out.ac h1
      have dk : decide ((k : Int) < (l.length : Int)) = true := decide_eq_true (by omega)
      have dk1 : decide ((k : Int) < 100) = true := decide_eq_true (by omega)
      have dk2 : (k : Int) < (l.length : Int) := by omega
      have hwx := HX.out l[k] (List.getElem_mem h1)
      have HNO := Lib.hid (fewA_no l k h1 h2)
      have HYES := Lib.hid (fun h => allsnoc okA l k h1 H0.out h)
      generalize l[k] = x at *
      have HU := Lib.hid hwx.used
      have hul := hwx.len
      have HDEF : Hid (okA x = (decide (x.name.size ≤ 60) && (namesB x.used && (decide (0 ≤ x.size) && decide (0 ≤ x.round))))) := rfl
      clear hwx
      by_cases he : (60 : Int) < x.name.size
      · have HN := Lib.hid (HNO.out (by rw [HDEF.out, decide_eq_false (by omega)]; rfl))
        have d60 : decide ((60 : Int) < x.name.size) = true := decide_eq_true he
        clear he
        go_wp2_with fail
        go_ret
        exact ⟨ret_bool HN.out.symm, Below.refl _ _⟩
      · have d60 : decide ((60 : Int) < x.name.size) = false := decide_eq_false he
        have hs60 : decide (x.name.size ≤ 60) = true := decide_eq_true (by omega)
        rw [hs60] at HDEF
        clear he hs60
        cases hn : namesB x.used
        · have HN := Lib.hid (HNO.out (by rw [HDEF.out, hn]; rfl))
          have hna := names_any x.used x.ua x.uc w HU.out hul
          rw [hn] at hna
          clear hn
          go_wp2_with fail
          refine hna.mono ?_; rintro e wa ⟨rfl, rfl⟩
          go_wp2_with fail
          go_ret
          exact ⟨ret_bool HN.out.symm, Below.refl _ _⟩
        · have hna := names_any x.used x.ua x.uc w HU.out hul
          rw [hn] at hna HDEF
          have HNA := Lib.hid hna
          clear hn hna
          by_cases hz : x.size < 0
          · have HN := Lib.hid (HNO.out (by rw [HDEF.out, decide_eq_false (show ¬ (0 ≤ x.size) by omega)]; rfl))
            have dz : decide (x.size < 0) = true := decide_eq_true hz
            clear hz
            go_wp2_with fail
            refine HNA.out.mono ?_; rintro e wa ⟨rfl, rfl⟩
            go_wp2_with fail
            go_ret
            exact ⟨ret_bool HN.out.symm, Below.refl _ _⟩
          · have dz : decide (x.size < 0) = false := decide_eq_false hz
            rw [decide_eq_true (show 0 ≤ x.size by omega)] at HDEF
            clear hz
            by_cases hr0 : x.round < 0
            · have HN := Lib.hid (HNO.out (by rw [HDEF.out, decide_eq_false (show ¬ (0 ≤ x.round) by omega)]; rfl))
              have dr : decide (x.round < 0) = true := decide_eq_true hr0
              clear hr0
              go_wp2_with fail
              refine HNA.out.mono ?_; rintro e wa ⟨rfl, rfl⟩
              go_wp2_with fail
              go_ret
              exact ⟨ret_bool HN.out.symm, Below.refl _ _⟩
            · have dr : decide (x.round < 0) = false := decide_eq_false hr0
              have HY := Lib.hid (HYES.out (by rw [HDEF.out, decide_eq_true (show 0 ≤ x.round by omega)]; rfl))
              clear hr0
              go_wp2_with fail
              refine HNA.out.mono ?_; rintro e wa ⟨rfl, rfl⟩
              go_wp2_with fail
              go_round
              case rel => exact ⟨k + 1, by omega, by omega, by go_num, HY.out⟩
              case measure => simp [intOf]; omega
    · have HF := Lib.hid (fewA_yes l k hk hk2 hlt H0.out)
      by_cases h1 : k < l.length
      · have dk : decide ((k : Int) < (l.length : Int)) = true := decide_eq_true (by omega)
        have dk1 : decide ((k : Int) < 100) = false := decide_eq_false (by omega)
        clear hlt
        go_wp2_with fail
        go_ret
        exact ⟨ret_bool HF.out.symm, Below.refl _ _⟩
      · have dk : decide ((k : Int) < (l.length : Int)) = false := decide_eq_false (by omega)
        clear hlt
        go_wp2_with fail
        go_ret
        exact ⟨ret_bool HF.out.symm, Below.refl _ _⟩

/-! ### after -/
def stepA (m : List Im) (x : Ac) : List Im := if x.act = 0 then putOf m x.name x.size x.round else if x.act = 1 then touchM m x.used x.round else dropOf x.name m
def afterOf (l : List Ac) : List Im := l.foldl stepA []
theorem afterOf_next (l : List Ac) (k : Nat) (hk : k < l.length) : afterOf (l.take (k + 1)) = stepA (afterOf (l.take k)) l[k] := by
  unfold afterOf; rw [List.take_succ_eq_append_getElem hk, List.foldl_append]; rfl
theorem stepA_sorted {m : List Im} (x : Ac) (hs : SortedN m) : SortedN (stepA m x) := by
  unfold stepA
  split
  · exact sorted_put hs
  · split
    · exact sorted_names (touchM_names _ _ _) hs
    · exact sorted_dropOf hs
theorem stepA_len (m : List Im) (x : Ac) : (stepA m x).length ≤ m.length + 1 := by
  unfold stepA
  split
  · cases hat : isAt m x.name
    · rw [putOf_no hat, insI_len _ _ _ (lowerI_le _ _)]; omega
    · rw [put_len hat]; omega
  · split
    · rw [touchM_len]; omega
    · unfold dropOf; exact Nat.le_trans (List.length_filter_le _ _) (by omega)
theorem stepA_wf {m : List Im} (x : Ac) (hx : I64 x.size) (h : ∀ y ∈ m, I64 y.size) : ∀ y ∈ stepA m x, I64 y.size := by
  unfold stepA
  split
  · intro y hy
    cases hat : isAt m x.name
    · rw [putOf_no hat] at hy
      unfold insI at hy
      rcases List.mem_append.1 hy with h1 | h1
      · exact h y (List.mem_of_mem_take h1)
      · rcases List.mem_cons.1 h1 with rfl | h1
        · exact hx
        · exact h y (List.mem_of_mem_drop h1)
    · obtain ⟨hi, _⟩ := isAt_lt hat
      rw [putOf_yes hat, setLast_at hi] at hy
      rcases List.mem_or_eq_of_mem_set hy with h1 | rfl
      · exact h y h1
      · show I64 (m[lowerI m x.name]).size
        exact h _ (List.getElem_mem hi)
  · split
    · intro y hy
      unfold touchM at hy
      obtain ⟨z, hz, rfl⟩ := List.mem_map.1 hy
      split <;> exact h z hz
    · intro y hy
      exact h y (List.mem_filter.1 hy).1
theorem after_all (l : List Ac) (hwf : ∀ x ∈ l, I64 x.size) : ∀ k, k ≤ l.length → SortedN (afterOf (l.take k)) ∧ (afterOf (l.take k)).length ≤ k ∧ ∀ y ∈ afterOf (l.take k), I64 y.size
  | 0, _ => ⟨sorted0, Nat.le_refl _, fun y hy => by cases hy⟩
  | k + 1, hk => by
    obtain ⟨h1, h2, h3⟩ := after_all l hwf k (by omega)
    rw [afterOf_next l k (by omega)]
    exact ⟨stepA_sorted _ h1, Nat.le_trans (stepA_len _ _) (by omega), stepA_wf _ (hwf _ (List.getElem_mem _)) h3⟩
set_option maxHeartbeats 4000000 in
set_option maxRecDepth 100000 in
theorem after_any (l : List Ac) (A : Option Addr) (n c : Nat) (hn : l.length = n) (w : World) (hr : Rds w encA A l) (hwf : ∀ x ∈ l, x.Wf w) (hl : l.length ≤ 1000) :
    Calls Try.prog 41 #[.slice A n c] w (GivesIms (afterOf l) w) := by
  subst hn
  have HR := Lib.hid hr
  have HX := Lib.hid hwf
  have HAL := Lib.hid (after_all l (fun x hx => (hwf x hx).size))
  clear hr hwf
  have mixed : Try.prog.follows Departure.mixedOrders = true := by kernel_rfl
  go_enter Try.func41, Try.ntmps41
  go_wp2_with fail
  go_loopw [3, 4] (fun out i wr => ∃ (k : Nat) (m : List Im) (A' : Option Addr) (c' : Nat), k ≤ l.length ∧ i = .int .i64 k ∧ m = afterOf (l.take k) ∧ out = .slice A' m.length c' ∧ Own wr w.heap.size 46 encI (.slice A' m.length c') m ∧ Below w.heap.size w wr) (fun _ i _ => l.length - (intOf i).toNat)
  case atStart => exact ⟨0, [], none, 0, by omega, rfl, rfl, rfl, Own.nil_ _ _ _ _, Below.refl _ _⟩
  case round =>
    obtain ⟨k, m, A', c', hk, rfl, hm', rfl, hO, hB⟩ := hrel
    have hA := HAL.out k hk
    rw [← hm'] at hA
    have hml := hA.2.1
    have HS := Lib.hid hA.1
    have HM := Lib.hid hm'
    have HP := Lib.hid (And.intro hO hB)
    clear hA hm' hO hB
    by_cases hlt : k < l.length
    · obtain ⟨b, off, rfl, hb, c0, c1, c2, c3, c4⟩ := (HR.out.below HP.out.2).ac hlt
      have dk : decide ((k : Int) < (l.length : Int)) = true := decide_eq_true (by omega)
      have dk2 : (k : Int) < (l.length : Int) := by omega
      have hwx := HX.out l[k] (List.getElem_mem hlt)
      have HN := Lib.hid (afterOf_next l k hlt)
      rw [← HM.out] at HN
      generalize l[k] = x at *
      have HU := Lib.hid (hwx.used.below HP.out.2)
      have hul := hwx.len
      clear hwx
      have HDEF : Hid (stepA m x = if x.act = 0 then putOf m x.name x.size x.round else if x.act = 1 then touchM m x.used x.round else dropOf x.name m) := rfl
      by_cases h0 : x.act = 0
      · have HST : Hid (putOf m x.name x.size x.round = afterOf (l.take (k + 1))) := by show _ = _; rw [HN.out, HDEF.out, if_pos h0]
        have d0 : (x.act == 0) = true := beq_iff_eq.2 h0
        clear h0
        go_wp2_with fail
        go_region_law_o (go_simp; go_at_call 46; refine (refPut_v HST.out A' c' _ (HP.out.1.drew).toRds (by omega) HS.out).mono ?_; rintro e wa ⟨A3, k3, rfl, hO, hb3⟩; have HX3 := Lib.hid (And.intro (hO.mono HP.out.2.drew.size) (HP.out.2.drew.trans (hb3.mono HP.out.2.drew.size))); clear hO hb3)
        all_goals
          go_wp2_with fail
          go_roundw
          case rel => exact ⟨k + 1, _, A3, k3, by omega, by go_num, rfl, rfl, HX3.out.1, HX3.out.2⟩
          case measure => simp [intOf]; omega
      · have d0 : (x.act == 0) = false := beq_eq_false_iff_ne.2 h0
        by_cases h1 : x.act = 1
        · have HST : Hid (touchM m x.used x.round = afterOf (l.take (k + 1))) := by show _ = _; rw [HN.out, HDEF.out, if_neg h0, if_pos h1]
          have d1 : (x.act == 1) = true := beq_iff_eq.2 h1
          clear h0 h1
          go_wp2_with fail
          go_region_law_o (go_simp; go_at_call 47; refine (refTouch_v HST.out A' x.ua c' x.uc _ (HP.out.1.drew).toRds (HU.out.drew) (by omega) hul).mono ?_; rintro e wa ⟨A3, k3, rfl, hO, hb3⟩; have HX3 := Lib.hid (And.intro (hO.mono HP.out.2.drew.size) (HP.out.2.drew.trans (hb3.mono HP.out.2.drew.size))); clear hO hb3)
          all_goals
            go_wp2_with fail
            go_roundw
            case rel => exact ⟨k + 1, _, A3, k3, by omega, by go_num, rfl, rfl, HX3.out.1, HX3.out.2⟩
            case measure => simp [intOf]; omega
        · have HST : Hid (dropOf x.name m = afterOf (l.take (k + 1))) := by show _ = _; rw [HN.out, HDEF.out, if_neg h0, if_neg h1]
          have d1 : (x.act == 1) = false := beq_eq_false_iff_ne.2 h1
          clear h0 h1
          go_wp2_with fail
          refine (refDrop_v HST.out A' c' _ HP.out.1.toRds (by omega)).mono ?_; rintro e wa ⟨A3, k3, rfl, hO, hb3⟩
          have HX3 := Lib.hid (And.intro (hO.mono HP.out.2.size) (HP.out.2.trans (hb3.mono HP.out.2.size)))
          clear hO hb3
          go_wp2_with fail
          go_roundw
          case rel => exact ⟨k + 1, _, A3, k3, by omega, by go_num, rfl, rfl, HX3.out.1, HX3.out.2⟩
          case measure => simp [intOf]; omega
    · obtain rfl : k = l.length := by omega
      have dk : decide ((l.length : Int) < (l.length : Int)) = false := by simp
      rw [List.take_length] at HM
      go_wp2_with fail
      go_ret
      exact ⟨A', c', by rw [← HM.out] <;> rfl, by rw [← HM.out]; exact HP.out.1, HP.out.2⟩
end Go.Proofs.Ytfaklhdafpbkmaa
