/- The reference's Few and Sums; sums do not hang on the order. -/
import Derived.Test.YtjngkmfkgbcjjaaDoorSums
import Derived.Deep.RegionLaw
namespace Go.Proofs.YtjngkmfkgbcjjaaDoor
open Go.RowKit

def fewB (l : List Pd) : Bool := (l.take 200).all Pd.small && decide (l.length ≤ 100)
theorem fewB_no (l : List Pd) (k : Nat) (hk : k < l.length) (h2 : k < 200) (h : l[k].small = false) : fewB l = false := by
  unfold fewB
  have : (l.take 200).all Pd.small = false := by
    rw [List.all_eq_false]
    exact ⟨l[k], List.mem_take_iff_getElem.2 ⟨k, by omega, rfl⟩, by simp [h]⟩
  rw [this]; rfl
theorem fewB_yes (l : List Pd) (k : Nat) (hk : k ≤ l.length) (h2 : k ≤ 200) (he : ¬ (k < l.length ∧ k < 200)) (h : (l.take k).all Pd.small = true) : fewB l = decide ((l.length : Int) ≤ 100) := by
  unfold fewB
  have e : l.take 200 = l.take k := by
    rcases Nat.lt_or_ge k 200 with h3 | h3
    · obtain rfl : k = l.length := by omega
      rw [List.take_of_length_le (by omega), List.take_of_length_le (Nat.le_refl _)]
    · obtain rfl : k = 200 := by omega
      rfl
  rw [e, h, Bool.true_and]
  congr 1
  apply propext
  omega
theorem all_snoc (f : Pd → Bool) (l : List Pd) (k : Nat) (hk : k < l.length) (h : (l.take k).all f = true) (h2 : f l[k] = true) : (l.take (k + 1)).all f = true := by
  rw [List.take_succ_eq_append_getElem hk, List.all_append, h, List.all_cons, h2]; rfl

set_option maxHeartbeats 2000000 in
theorem few_any (l : List Pd) (A : Option Addr) (c : Nat) (w : World) (hr : Rds w encP A l) (hm : l.length ≤ 9223372036854775807) :
    Calls Tryd.prog 20 #[.slice A l.length c] w fun e w' => e = .returned (.bool (fewB l)) ∧ Below w.heap.size w w' := by
  have HR := Lib.hid hr
  clear hr
  go_enter Tryd.func20, Tryd.ntmps20
  go_wp2_with fail
  go_loopw [3] (fun i wr => ∃ k : Nat, k ≤ l.length ∧ k ≤ 200 ∧ i = .int .i64 k ∧ (l.take k).all Pd.small = true ∧ Below w.heap.size w wr) (fun i _ => l.length - (intOf i).toNat)
  case atStart => exact ⟨0, by omega, by omega, rfl, rfl, Below.refl _ _⟩
  case round =>
    obtain ⟨k, hk, hk2, rfl, hs, hB⟩ := hrel
    have HS := Lib.hid hs
    clear hs
    by_cases hlt : k < l.length ∧ k < 200
    · obtain ⟨h1, h2⟩ := hlt
      obtain ⟨b, off, rfl, hb, hcell⟩ := HR.out.at_ h1
      have dk : decide ((k : Int) < (l.length : Int)) = true := decide_eq_true (by omega)
      have dk2 : decide ((k : Int) < 200) = true := decide_eq_true (by omega)
      have dk3 : (k : Int) < (l.length : Int) := by omega
      have hrange : wr.rangeAt b (off + k * 11) l[k].cells.toList := fun j v hv => (hB.cell (p := ⟨b, off + k * 11 + j, none⟩) hb).trans (Rds.range h1 hcell j v hv)
      have hno := fewB_no l k h1 h2
      have hyes := all_snoc Pd.small l k h1 HS.out
      generalize l[k] = p at *
      have H := Lib.hid (And.intro hB (And.intro hrange (And.intro hno hyes)))
      clear hB hcell hrange hno hyes
      go_wp2_with (refine wpList_load_mid rfl 24 (.tmp 16) rfl b (off + k * 11) rfl p.cells.toList _ H.out.2.1 Tryd.underlying24 rfl infoPod ?_)
      refine (small_any p _).mono ?_; rintro e w6 ⟨rfl, hb6⟩
      have HB := Lib.hid (H.out.1.trans (hb6.mono H.out.1.size))
      clear hb6
      cases hs : p.small
      · have HN := Lib.hid (H.out.2.2.1 hs)
        clear hs
        go_wp2_with fail
        go_ret
        exact ⟨ret_bool HN.out.symm, HB.out⟩
      · have HN := Lib.hid (H.out.2.2.2 hs)
        clear hs
        go_wp2_with fail
        go_roundw
        case rel => exact ⟨k + 1, by omega, by omega, by go_num, HN.out, HB.out⟩
        case measure => simp [intOf]; omega
    · have HF := Lib.hid (fewB_yes l k hk hk2 hlt HS.out)
      have HB := Lib.hid hB
      clear hB
      by_cases h1 : k < l.length
      · have dk : decide ((k : Int) < (l.length : Int)) = true := decide_eq_true (by omega)
        have dk2 : decide ((k : Int) < 200) = false := decide_eq_false (by omega)
        go_wp2_with fail
        go_ret
        exact ⟨ret_bool HF.out.symm, HB.out⟩
      · have dk : decide ((k : Int) < (l.length : Int)) = false := decide_eq_false (by omega)
        go_wp2_with fail
        go_ret
        exact ⟨ret_bool HF.out.symm, HB.out⟩

set_option maxHeartbeats 4000000 in
theorem refSums_any (l : List Pd) (A : Option Addr) (c : Nat) (w : World) (hr : Rds w encP A l) (hwf : ∀ p ∈ l, p.Wf) (hn : l.length ≤ 140737488355328) :
    Calls Tryd.prog 22 #[.slice A l.length c] w fun e w' => e = .returned (.agg (sumsOf l).cells) ∧ Below w.heap.size w w' := by
  have HR := Lib.hid hr
  have HW := Lib.hid hwf
  clear hr hwf
  go_enter Tryd.func22, Tryd.ntmps22
  go_wp2_with fail
  have z0 : (w.alloc (.cells (S3.mk 0 0 0).cells 22)).heap.size = w.heap.size + 1 := by simp
  have HB0 : Hid (Blk ((w.alloc (.cells (S3.mk 0 0 0).cells 22)).alloc (.cells (S3.mk 0 0 0).cells 22)) w.heap.size 22 (S3.mk 0 0 0).cells ∧ Blk ((w.alloc (.cells (S3.mk 0 0 0).cells 22)).alloc (.cells (S3.mk 0 0 0).cells 22)) (w.heap.size + 1) 22 (S3.mk 0 0 0).cells ∧ Below w.heap.size w ((w.alloc (.cells (S3.mk 0 0 0).cells 22)).alloc (.cells (S3.mk 0 0 0).cells 22))) :=
    ⟨(Blk.new _ _ _).alloc _, by rw [← z0]; exact Blk.new _ _ _, ((Below.refl _ _).alloc (Nat.le_refl _) _).alloc (by simp) _⟩
  clear z0
  go_loopw [4] (fun i wr => ∃ k : Nat, k ≤ l.length ∧ i = .int .i64 k ∧ Blk wr w.heap.size 22 (S3.mk 0 0 0).cells ∧ Blk wr (w.heap.size + 1) 22 (sumsOf (l.take k)).cells ∧ Below w.heap.size w wr) (fun i _ => l.length - (intOf i).toNat)
  case atStart => exact ⟨0, by omega, rfl, HB0.out.1, HB0.out.2.1, HB0.out.2.2⟩
  case round =>
    clear HB0
    obtain ⟨k, hk, rfl, hR, hS, hB⟩ := hrel
    by_cases hlt : k < l.length
    · obtain ⟨b, off, rfl, hb, hcell⟩ := HR.out.at_ hlt
      have dk : decide ((k : Int) < (l.length : Int)) = true := decide_eq_true (by omega)
      have dk2 : (k : Int) < (l.length : Int) := by omega
      have hcell2 : ∀ j u, l[k].cells[j]? = some u → w.cell? ⟨b, off + k * 11 + j, none⟩ = some u := fun j u hu => by rw [Nat.add_assoc]; exact hcell j u (by show l[k].cells.toList[j]? = some u; rw [Array.getElem?_toList]; exact hu)
      have hsn := sumsOf_snoc l k hlt
      have hpw := HW.out l[k] (List.getElem_mem hlt)
      have hsw := sumsOf_ok (l.take k) fun p hp => HW.out p (List.mem_of_mem_take hp)
      generalize l[k] = p at *
      generalize sumsOf (l.take k) = s at *
      have HC := Lib.hid hcell2
      have HSN := Lib.hid hsn
      have HSW := Lib.hid hsw
      have HPW := Lib.hid hpw
      have HI := Lib.hid (And.intro hR (And.intro hS hB))
      clear hR hS hB hcell hcell2 hsn hpw hsw
      go_wp2_with fail
      obtain ⟨wo, hwo⟩ : ∃ wo : World, wo = wr := ⟨_, rfl⟩
      subst hwo
      go_loopw [5] (fun i wq => ∃ j : Nat, j ≤ 3 ∧ i = .int .i64 j ∧ Blk wq w.heap.size 22 (S3.mk 0 0 0).cells ∧ Blk wq (w.heap.size + 1) 22 (s.part p j).cells ∧ Below w.heap.size w wq) (fun i _ => 3 - (intOf i).toNat)
      case atStart => exact ⟨0, by omega, rfl, HI.out.1, HI.out.2.1, HI.out.2.2⟩
      case round =>
        clear HI
        obtain ⟨j, hj, rfl, hR, hS, hB⟩ := hrel
        obtain rfl | rfl | rfl | rfl : j = 0 ∨ j = 1 ∨ j = 2 ∨ j = 3 := by omega
        · have cs : wr.cell? ⟨w.heap.size + 1, 0, none⟩ = some (.int .i64 s.a) := hS.cell 0
          have fs : wr.frozen? ⟨w.heap.size + 1, 0, none⟩ = false := hS.frozen 0
          have cq : wr.cell? ⟨b, off + k * 11 + 3, none⟩ = some (.int .i64 p.q0) := (hB.cell (p := ⟨b, off + k * 11 + 3, none⟩) hb).trans (HC.out 3 (.int .i64 p.q0) rfl)
          have hR1 := hR.far (p := ⟨w.heap.size + 1, 0, none⟩) (by simp) (.int .i64 (satAdd s.a p.q0))
          have hS1 : Blk (wr.setCell ⟨w.heap.size + 1, 0, none⟩ (.int .i64 (satAdd s.a p.q0))) (w.heap.size + 1) 22 (s.part p 1).cells := hS.set_ 0 _
          have hB1 := hB.setCell (p := ⟨w.heap.size + 1, 0, none⟩) (by simp) (.int .i64 (satAdd s.a p.q0))
          have HH := Lib.hid (And.intro hR1 (And.intro hS1 hB1))
          have hI := HSW.out.1
          clear hR hS hB hR1 hS1 hB1
          go_wp2_with fail
          go_region_law (go_simp; go_at_call 29; (with_reducible refine (refAdd_any _ _ _ hI HPW.out.q0).mono ?_); rintro e w6 ⟨rfl, rfl⟩)
          all_goals
            go_wp2_with fail
            go_roundw
            case rel => exact ⟨1, by omega, rfl, HH.out.1, HH.out.2.1, HH.out.2.2.drew⟩
            case measure => simp [intOf]
        · have cs : wr.cell? ⟨w.heap.size + 1, 1, none⟩ = some (.int .i64 s.b) := hS.cell 1
          have fs : wr.frozen? ⟨w.heap.size + 1, 1, none⟩ = false := hS.frozen 1
          have cq : wr.cell? ⟨b, off + k * 11 + 4, none⟩ = some (.int .i64 p.q1) := (hB.cell (p := ⟨b, off + k * 11 + 4, none⟩) hb).trans (HC.out 4 (.int .i64 p.q1) rfl)
          have hR1 := hR.far (p := ⟨w.heap.size + 1, 1, none⟩) (by simp) (.int .i64 (satAdd s.b p.q1))
          have hS1 : Blk (wr.setCell ⟨w.heap.size + 1, 1, none⟩ (.int .i64 (satAdd s.b p.q1))) (w.heap.size + 1) 22 (s.part p 2).cells := hS.set_ 1 _
          have hB1 := hB.setCell (p := ⟨w.heap.size + 1, 1, none⟩) (by simp) (.int .i64 (satAdd s.b p.q1))
          have HH := Lib.hid (And.intro hR1 (And.intro hS1 hB1))
          have hI := HSW.out.2.1
          clear hR hS hB hR1 hS1 hB1
          go_wp2_with fail
          go_region_law (go_simp; go_at_call 29; (with_reducible refine (refAdd_any _ _ _ hI HPW.out.q1).mono ?_); rintro e w6 ⟨rfl, rfl⟩)
          all_goals
            go_wp2_with fail
            go_roundw
            case rel => exact ⟨2, by omega, rfl, HH.out.1, HH.out.2.1, HH.out.2.2.drew⟩
            case measure => simp [intOf]
        · have cs : wr.cell? ⟨w.heap.size + 1, 2, none⟩ = some (.int .i64 s.c) := hS.cell 2
          have fs : wr.frozen? ⟨w.heap.size + 1, 2, none⟩ = false := hS.frozen 2
          have cq : wr.cell? ⟨b, off + k * 11 + 5, none⟩ = some (.int .i64 p.q2) := (hB.cell (p := ⟨b, off + k * 11 + 5, none⟩) hb).trans (HC.out 5 (.int .i64 p.q2) rfl)
          have hR1 := hR.far (p := ⟨w.heap.size + 1, 2, none⟩) (by simp) (.int .i64 (satAdd s.c p.q2))
          have hS1 : Blk (wr.setCell ⟨w.heap.size + 1, 2, none⟩ (.int .i64 (satAdd s.c p.q2))) (w.heap.size + 1) 22 (s.part p 3).cells := hS.set_ 2 _
          have hB1 := hB.setCell (p := ⟨w.heap.size + 1, 2, none⟩) (by simp) (.int .i64 (satAdd s.c p.q2))
          have HH := Lib.hid (And.intro hR1 (And.intro hS1 hB1))
          have hI := HSW.out.2.2
          clear hR hS hB hR1 hS1 hB1
          go_wp2_with fail
          go_region_law (go_simp; go_at_call 29; (with_reducible refine (refAdd_any _ _ _ hI HPW.out.q2).mono ?_); rintro e w6 ⟨rfl, rfl⟩)
          all_goals
            go_wp2_with fail
            go_roundw
            case rel => exact ⟨3, by omega, rfl, HH.out.1, HH.out.2.1, HH.out.2.2.drew⟩
            case measure => simp [intOf]
        · have HH := Lib.hid (And.intro hR (And.intro hS hB))
          clear hR hS hB
          go_wp2_with fail
          go_roundw
          case rel => exact ⟨k + 1, by omega, by go_num, HH.out.1, by rw [HSN.out]; exact HH.out.2.1, HH.out.2.2⟩
          case measure => simp [intOf]; omega
    · obtain rfl : k = l.length := by omega
      rw [List.take_length] at hS
      have dk : decide ((l.length : Int) < (l.length : Int)) = false := by simp
      have c0 : wr.cell? ⟨w.heap.size + 1, 0, none⟩ = some (.int .i64 (sumsOf l).a) := hS.cell 0
      have c1 : wr.cell? ⟨w.heap.size + 1, 1, none⟩ = some (.int .i64 (sumsOf l).b) := hS.cell 1
      have c2 : wr.cell? ⟨w.heap.size + 1, 2, none⟩ = some (.int .i64 (sumsOf l).c) := hS.cell 2
      have H := Lib.hid (And.intro hR hB)
      clear hR hB hS
      go_wp2_with (refine wl_store_blk rfl 22 (.tmp 2) (.tmp 29) rfl w.heap.size 22 (S3.mk 0 0 0).cells (sumsOf l).cells rfl rfl H.out.1 rfl info3 (s3_one _) ?_; intro w5 hR5 hg5 hs5)
      have hl5 := hR5.cell
      exact bodyPost_ret (v := .agg (sumsOf l).cells) (by simp [results, Tryd.results22, go_sem, hl5]) rfl ⟨rfl, H.out.2.grown hg5 H.out.2.size (by intro k hk; cases hk; exact Nat.le_refl _)⟩

/-! ### the order does not matter -/
theorem satAdd_comm3 (a x y : Int) : satAdd (satAdd a x) y = satAdd (satAdd a y) x := by
  unfold satAdd nat0 most
  repeat' split
  all_goals omega
theorem S3.add_comm (s : S3) (p q : Pd) : (s.add p).add q = (s.add q).add p := by
  unfold S3.add
  simp only [satAdd_comm3 _ p.q0 q.q0, satAdd_comm3 _ p.q1 q.q1, satAdd_comm3 _ p.q2 q.q2]
theorem foldl_perm {α β : Type} {f : β → α → β} (hf : ∀ b x y, f (f b x) y = f (f b y) x) {l m : List α} (h : l.Perm m) : ∀ b, l.foldl f b = m.foldl f b := by
  induction h with
  | nil => intro b; rfl
  | cons x _ ih => intro b; exact ih _
  | swap x y l => intro b; simp only [List.foldl_cons]; rw [hf]
  | trans _ _ ih1 ih2 => intro b; exact (ih1 b).trans (ih2 b)
theorem sumsOf_perm {l m : List Pd} (h : l.Perm m) : sumsOf l = sumsOf m := foldl_perm S3.add_comm h _
end Go.Proofs.YtjngkmfkgbcjjaaDoor
