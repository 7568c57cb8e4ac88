/- pod.Sums: the sums of all requests. -/
import Derived.Test.YtkpcinkpdonihaaDoorPut
import Derived.Test.YtkpcinkpdonihaaDoorCut
import Derived.Outline
namespace Go.Proofs.YtkpcinkpdonihaaDoor
open Go.RowKit

def encP : Enc Pd 11 := ⟨fun p => p.cells.toList, fun _ => rfl, fun p u hu => by simp at hu; rcases hu with h | h | h | h | h | h | h | h | h | h | h <;> subst h <;> rfl, by decide⟩

/-- three sums -/
structure S3 where
  a : Int
  b : Int
  c : Int
def S3.add (s : S3) (p : Pd) : S3 := ⟨satAdd s.a p.q0, satAdd s.b p.q1, satAdd s.c p.q2⟩
def sumsOf (l : List Pd) : S3 := l.foldl S3.add ⟨0, 0, 0⟩
theorem sumsOf_snoc (l : List Pd) (k : Nat) (h : k < l.length) : sumsOf (l.take (k + 1)) = (sumsOf (l.take k)).add l[k] := by
  unfold sumsOf
  rw [List.take_succ_eq_append_getElem h, List.foldl_append]
  rfl
def S3.part (s : S3) (p : Pd) : Nat → S3
  | 0 => s
  | 1 => ⟨satAdd s.a p.q0, s.b, s.c⟩
  | 2 => ⟨satAdd s.a p.q0, satAdd s.b p.q1, s.c⟩
  | _ => s.add p
def S3.ok (s : S3) : Prop := I64 s.a ∧ I64 s.b ∧ I64 s.c
theorem S3.ok_add (s : S3) (p : Pd) (hs : s.ok) (hp : p.Wf) : (s.add p).ok := ⟨satAdd_I64 _ _ hs.1 hp.q0, satAdd_I64 _ _ hs.2.1 hp.q1, satAdd_I64 _ _ hs.2.2 hp.q2⟩
theorem Rds.range {w : World} {l : List Pd} {b off k : Nat} (hk : k < l.length) (hc : ∀ j u, (encP.enc l[k])[j]? = some u → w.cell? ⟨b, off + (k * 11 + j), none⟩ = some u) : w.rangeAt b (off + k * 11) l[k].cells.toList := fun j v hv => by
  rw [Nat.add_assoc]; exact hc j v hv
theorem sumsOf_ok (l : List Pd) (h : ∀ p ∈ l, p.Wf) : (sumsOf l).ok := by
  unfold sumsOf
  have key : ∀ (l : List Pd) (s : S3), s.ok → (∀ p ∈ l, p.Wf) → (l.foldl S3.add s).ok := by
    intro l
    induction l with
    | nil => intro s hs _; exact hs
    | cons p l ih => intro s hs h; exact ih _ (S3.ok_add s p hs (h p (by simp))) fun q hq => h q (by simp [hq])
  exact key l _ ⟨by show I64 0; unfold I64; omega, by show I64 0; unfold I64; omega, by show I64 0; unfold I64; omega⟩ h

abbrev S3.cells (s : S3) : Array Value := #[.int .i64 s.a, .int .i64 s.b, .int .i64 s.c]

theorem info3 : (Tryd.prog.info? 24).map (·.size) = some 3 := by kernel_rfl
theorem s3_one (s : S3) : (s.cells.all (·.oneCell')) = true := by simp [Value.oneCell']

set_option maxHeartbeats 2000000 in
theorem sums_any (l : List Pd) (A : Option Addr) (c : Nat) (w : World) (hr : Rds w encP A l) (hwf : ∀ p ∈ l, p.Wf) (hn : l.length ≤ 140737488355328) :
    Calls Tryd.prog 12 #[.slice A l.length c] w fun e w' => e = .returned (.agg (sumsOf l).cells) ∧ Below w.heap.size w w' := by
  have HR := Lib.hid hr
  have HW := Lib.hid hwf
  clear hr hwf
  go_enter Tryd.func12, Tryd.ntmps12
  go_wp2_with fail
  have z0 : (w.alloc (.cells (S3.mk 0 0 0).cells 24)).heap.size = w.heap.size + 1 := by simp
  have HB0 : Hid (Blk ((w.alloc (.cells (S3.mk 0 0 0).cells 24)).alloc (.cells (S3.mk 0 0 0).cells 24)) w.heap.size 24 (S3.mk 0 0 0).cells ∧ Blk ((w.alloc (.cells (S3.mk 0 0 0).cells 24)).alloc (.cells (S3.mk 0 0 0).cells 24)) (w.heap.size + 1) 24 (S3.mk 0 0 0).cells ∧ Below w.heap.size w ((w.alloc (.cells (S3.mk 0 0 0).cells 24)).alloc (.cells (S3.mk 0 0 0).cells 24))) :=
    ⟨(Blk.new _ _ _).alloc _, by rw [← z0]; exact Blk.new _ _ _, ((Below.refl _ _).alloc (Nat.le_refl _) _).alloc (by simp) _⟩
  clear z0
  go_loopw [10] (fun i wr => ∃ k : Nat, k ≤ l.length ∧ i = .int .i64 k ∧ Blk wr w.heap.size 24 (S3.mk 0 0 0).cells ∧ Blk wr (w.heap.size + 1) 24 (sumsOf (l.take k)).cells ∧ Below w.heap.size w wr) (fun i _ => l.length - (intOf i).toNat)
  case atStart => exact ⟨0, by omega, rfl, HB0.out.1, HB0.out.2.1, HB0.out.2.2⟩
  case round =>
    clear HB0
    obtain ⟨k, hk, rfl, hR, hS, hB⟩ := hrel
    by_cases hlt : k < l.length
    · obtain ⟨b, off, rfl, hb, hcell⟩ := HR.out.at_ hlt
      have dk : decide ((k : Int) < (l.length : Int)) = true := decide_eq_true (by omega)
      have dk2 : (k : Int) < (l.length : Int) := by omega
      have hrange : wr.rangeAt b (off + k * 11) l[k].cells.toList := fun j v hv => (hB.cell (p := ⟨b, off + k * 11 + j, none⟩) hb).trans (Rds.range hlt hcell j v hv)
      have hsn := sumsOf_snoc l k hlt
      have hpw := HW.out l[k] (List.getElem_mem hlt)
      have hsw := sumsOf_ok (l.take k) fun p hp => HW.out p (List.mem_of_mem_take hp)
      generalize l[k] = p at *
      generalize sumsOf (l.take k) = s at *
      have H := Lib.hid (And.intro hR (And.intro hS (And.intro hB (And.intro hrange (And.intro hsn hsw)))))
      have HPW := Lib.hid hpw
      clear hR hS hB hcell hrange hsn hpw hsw
      go_wp2_with (first | (refine wpList_load_mid rfl 26 (.tmp 12) rfl b (off + k * 11) rfl p.cells.toList _ H.out.2.2.2.1 Tryd.underlying26 rfl infoPod ?_) | (refine wl_store_blk rfl 26 (.tmp 5) (.tmp 13) rfl wr.heap.size 26 zeroPod p.cells rfl rfl (Blk.new _ _ _) rfl infoPod (cells_one p) ?_; intro w5 hQ5 hg5 hs5; have q3 : w5.cell? ⟨wr.heap.size, 3, none⟩ = some (.int .i64 p.q0) := hQ5.cell 3; have q4 : w5.cell? ⟨wr.heap.size, 4, none⟩ = some (.int .i64 p.q1) := hQ5.cell 4; have q5 : w5.cell? ⟨wr.heap.size, 5, none⟩ = some (.int .i64 p.q2) := hQ5.cell 5; have HG := Lib.hid hg5; clear hg5 hQ5))
      have hR5 : Blk w5 w.heap.size 24 (S3.mk 0 0 0).cells := (H.out.1.alloc _).grown HG.out (by have := H.out.1.lt; intro e; injection e with e; omega)
      have hS5 : Blk w5 (w.heap.size + 1) 24 s.cells := (H.out.2.1.alloc _).grown HG.out (by have := H.out.2.1.lt; intro e; injection e with e; omega)
      have hB5 : Below w.heap.size w w5 := (H.out.2.2.1.alloc H.out.2.2.1.size _).grown HG.out (by have := H.out.2.2.1.size; simp; omega) (by intro g hg; injection hg with hg; have := H.out.2.2.1.size; omega)
      have HI := Lib.hid (And.intro hR5 (And.intro hS5 hB5))
      clear hR5 hS5 hB5 HG hs5 q3 q4 q5
      go_loopw [16] (fun i wq => ∃ j : Nat, j ≤ 3 ∧ i = .int .i64 j ∧ Blk wq w.heap.size 24 (S3.mk 0 0 0).cells ∧ Blk wq (w.heap.size + 1) 24 (s.part p j).cells ∧ Below w.heap.size w wq) (fun i _ => 3 - (intOf i).toNat)
      case atStart => exact ⟨0, by omega, rfl, HI.out.1, HI.out.2.1, HI.out.2.2⟩
      case round =>
        clear HI
        obtain ⟨j, hj, rfl, hR, hS, hB⟩ := hrel
        obtain rfl | rfl | rfl | rfl : j = 0 ∨ j = 1 ∨ j = 2 ∨ j = 3 := by omega
        · have cs : wr.cell? ⟨w.heap.size + 1, 0, none⟩ = some (.int .i64 s.a) := hS.cell 0
          have fs : wr.frozen? ⟨w.heap.size + 1, 0, none⟩ = false := hS.frozen 0
          have hR1 := hR.far (p := ⟨w.heap.size + 1, 0, none⟩) (by simp) (.int .i64 (satAdd s.a p.q0))
          have hS1 : Blk (wr.setCell ⟨w.heap.size + 1, 0, none⟩ (.int .i64 (satAdd s.a p.q0))) (w.heap.size + 1) 24 (s.part p 1).cells := hS.set_ 0 _
          have hB1 := hB.setCell (p := ⟨w.heap.size + 1, 0, none⟩) (by simp) (.int .i64 (satAdd s.a p.q0))
          have HH := Lib.hid (And.intro hR1 (And.intro hS1 hB1))
          have hI := H.out.2.2.2.2.2.1
          clear hR hS hB hR1 hS1 hB1
          go_wp2_with fail
          refine (add_any _ _ _ hI HPW.out.q0).mono ?_; rintro e w6 ⟨rfl, rfl⟩
          go_wp2_with fail
          go_roundw
          case rel => exact ⟨1, by omega, rfl, HH.out.1, HH.out.2.1, HH.out.2.2⟩
          case measure => simp [intOf]
        · have cs : wr.cell? ⟨w.heap.size + 1, 1, none⟩ = some (.int .i64 s.b) := hS.cell 1
          have fs : wr.frozen? ⟨w.heap.size + 1, 1, none⟩ = false := hS.frozen 1
          have hR1 := hR.far (p := ⟨w.heap.size + 1, 1, none⟩) (by simp) (.int .i64 (satAdd s.b p.q1))
          have hS1 : Blk (wr.setCell ⟨w.heap.size + 1, 1, none⟩ (.int .i64 (satAdd s.b p.q1))) (w.heap.size + 1) 24 (s.part p 2).cells := hS.set_ 1 _
          have hB1 := hB.setCell (p := ⟨w.heap.size + 1, 1, none⟩) (by simp) (.int .i64 (satAdd s.b p.q1))
          have HH := Lib.hid (And.intro hR1 (And.intro hS1 hB1))
          have hI := H.out.2.2.2.2.2.2.1
          clear hR hS hB hR1 hS1 hB1
          go_wp2_with fail
          refine (add_any _ _ _ hI HPW.out.q1).mono ?_; rintro e w6 ⟨rfl, rfl⟩
          go_wp2_with fail
          go_roundw
          case rel => exact ⟨2, by omega, rfl, HH.out.1, HH.out.2.1, HH.out.2.2⟩
          case measure => simp [intOf]
        · have cs : wr.cell? ⟨w.heap.size + 1, 2, none⟩ = some (.int .i64 s.c) := hS.cell 2
          have fs : wr.frozen? ⟨w.heap.size + 1, 2, none⟩ = false := hS.frozen 2
          have hR1 := hR.far (p := ⟨w.heap.size + 1, 2, none⟩) (by simp) (.int .i64 (satAdd s.c p.q2))
          have hS1 : Blk (wr.setCell ⟨w.heap.size + 1, 2, none⟩ (.int .i64 (satAdd s.c p.q2))) (w.heap.size + 1) 24 (s.part p 3).cells := hS.set_ 2 _
          have hB1 := hB.setCell (p := ⟨w.heap.size + 1, 2, none⟩) (by simp) (.int .i64 (satAdd s.c p.q2))
          have HH := Lib.hid (And.intro hR1 (And.intro hS1 hB1))
          have hI := H.out.2.2.2.2.2.2.2
          clear hR hS hB hR1 hS1 hB1
          go_wp2_with fail
          refine (add_any _ _ _ hI HPW.out.q2).mono ?_; rintro e w6 ⟨rfl, rfl⟩
          go_wp2_with fail
          go_roundw
          case rel => exact ⟨3, by omega, rfl, HH.out.1, HH.out.2.1, HH.out.2.2⟩
          case measure => simp [intOf]
        · have HH := Lib.hid (And.intro hR (And.intro hS hB))
          have hsn := Lib.hid H.out.2.2.2.2.1
          clear hR hS hB
          go_wp2_with fail
          go_roundw
          case rel => exact ⟨k + 1, by omega, by go_num, HH.out.1, by rw [hsn.out]; exact HH.out.2.1, HH.out.2.2⟩
          case measure => simp [intOf]; omega
    · obtain rfl : k = l.length := by omega
      rw [List.take_length] at hS
      have dk : decide ((l.length : Int) < (l.length : Int)) = false := by simp
      have b0 := hS.cell 0
      have b1 := hS.cell 1
      have b2 := hS.cell 2
      have c0 : wr.cell? ⟨w.heap.size + 1, 0, none⟩ = some (.int .i64 (sumsOf l).a) := hS.cell 0
      have c1 : wr.cell? ⟨w.heap.size + 1, 1, none⟩ = some (.int .i64 (sumsOf l).b) := hS.cell 1
      have c2 : wr.cell? ⟨w.heap.size + 1, 2, none⟩ = some (.int .i64 (sumsOf l).c) := hS.cell 2
      clear b0 b1 b2
      have H := Lib.hid (And.intro hR hB)
      clear hR hB hS
      go_wp2_with (refine wl_store_blk rfl 24 (.tmp 2) (.tmp 29) rfl w.heap.size 24 (S3.mk 0 0 0).cells (sumsOf l).cells rfl rfl H.out.1 rfl info3 (s3_one _) ?_; intro w5 hR5 hg5 hs5)
      have hl5 := hR5.cell
      exact bodyPost_ret (v := .agg (sumsOf l).cells) (by simp [results, Tryd.results12, go_sem, hl5]) rfl ⟨rfl, H.out.2.grown hg5 H.out.2.size (by intro k hk; cases hk; exact Nat.le_refl _)⟩
end Go.Proofs.YtkpcinkpdonihaaDoor
